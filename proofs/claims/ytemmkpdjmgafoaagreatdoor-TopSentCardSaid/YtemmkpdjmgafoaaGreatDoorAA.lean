/- A part of the proof; the last text says of what. No condition but those that stand in each. -/
import Derived.Orders
import Derived.Tactics
import Derived.Laws.World
import Derived.Below
import Derived.KernelRfl
import Derived.Laws.Small
import Derived.Laws.StructEq
import Derived.Laws.OwnMore
import Derived.Maps.AppendAt
namespace Go.Proofs.YtemmkpdjmgafoaaGreatDoor
set_option linter.all false
open Go
section
abbrev bX:=List Int
abbrev cR:=List Nat
abbrev dw:=Option Bool
abbrev hD:=List Value
abbrev ig:=Array Value
abbrev ir:=Option Int
abbrev iu:=Array MapEntry
abbrev iG:=Option Nat
abbrev jB:=Array Oper
abbrev jK:=Option (List Int)
abbrev jN:=List MapEntry
abbrev lT:=Array Nat
abbrev mh:=List (List Nat)
abbrev mC:=Array Bool
def vb:=@Array.getD_eq_getD_getElem?
def qj:=@Array.getElem?_eq_getElem
def b9:=@Bool.and_eq_true
def fI:=@List.pairwise_cons
def zp:=@List.pairwise_iff_forall_sublist
def tG:=@List.pairwise_iff_getElem
def lq:=@List.pairwise_map
def tH:=@List.replicate_succ
def pe:=@List.size_toArray
def tI:=@List.sum_cons
def o6:=@List.take_append_drop
def zq:=@List.take_append_of_le_length
def rP:=@List.take_left'
def up:=@Bool.and_self
def qt:=@List.take_of_length_le
def HP:=@List.take_succ_eq_append_getElem
def mD:=@Nat.add_assoc
def ha:=@Nat.add_mul
def n9:=@Nat.beq_eq
def vX:=@Nat.div_eq_of_lt
def ek:=@Nat.eq_of_beq_eq_true
def vY:=@Nat.eq_zero_or_pos
def qu:=@Nat.le_of_ble_eq_true
def eb:=@Nat.le_refl
def ns:=@Bool.eq_iff_iff
def gP:=@Nat.le_trans
def vZ:=@Nat.lt_of_lt_of_le
def o7:=@Nat.min_eq_left
def nj:=@Nat.mod_eq_of_lt
def tJ:=@Nat.mul_assoc
def rQ:=@Nat.mul_comm
def hp:=@Nat.mul_le_mul_right
def qv:=@Nat.one_mul
def nk:=@Nat.pow_add
def v1:=@Nat.pow_le_pow_right
def tZ:=@Bool.false_and
def rR:=@Nat.succ_mul
def v2:=@Nat.testBit_two_pow_mul
def v3:=@Nat.two_pow_pos
def hR:=@Nat.zero_add
def et:=@Ne.symm
def v4:=@Option.getD_some
def hZ:=@Option.isSome_iff_exists
def iS:=@Option.map_some
def qw:=@Option.some.inj
def ee:=@Option.some.injEq
def pL:=@Bool.false_eq_true
def kJ:=@Prod.mk.injEq
def gQ:=@Result.andThen_ok
def fD:=@Sem.run_bind
def jq:=@Sem.run_pure
def tK:=@Value.tuple.injEq
def zu:=@World.block_lt_of_cell?
def bH:=@cond_false
def cm:=@cond_true
def fq:=@congrArg
def ff:=@decide_eq_false
def qz:=@Bool.not_eq_false'
def iz:=@decide_eq_false_iff_not
def fU:=@decide_eq_true
def eY:=@decide_eq_true_eq
def jQ:=@decide_false
def ef:=@decide_true
def iT:=@false_or
def v5:=@grownCap_le_maxLen
def pf:=@heap_alloc_new
def h0:=@if_false
def bw:=@if_neg
def mM:=@Bool.not_eq_true
def bx:=@if_pos
def fE:=@if_true
def fF:=@of_decide_eq_true
def hG:=@or_false
def ja:=@run_underlying
def kf:=@setRow_heap
def pg:=@setRow_other
def gD:=@Bool.not_eq_true'
def js:=@Bool.not_false
def dk:=@Bool.not_true
def lG:=@Array.getElem?_eq_some_iff
def kj:=@Bool.or_eq_false_iff
def kZ:=@Bool.or_eq_true
def ow:=@Bool.or_self
def hq:=@Bool.true_and
def hV:=@Calls.mono
def zG:=@Classical.byContradiction
def pM:=@Int.le_refl
def rW:=@Int.toNat_natCast
def wm:=@IntKind.wrap_i64
def zR:=@List.Perm.append_left
def BX:=@Array.getElem?_setIfInBounds
def qA:=@List.all_cons
def gE:=@List.all_eq_true
def jt:=@List.append_assoc
def l5:=@List.append_nil
def iV:=@List.cons.injEq
def l6:=@List.cons_append
def ua:=@List.contains_iff_mem
def zS:=@List.dropLast_concat_getLast
def r3:=@List.drop_eq_getElem_cons
def zT:=@List.drop_eq_nil_of_le
def lH:=@Array.getElem?_toList
def mN:=@List.eq_nil_of_length_eq_zero
def mF:=@List.ext_getElem?
def r5:=@List.filterMap_append
def lB:=@List.filter_append
def wo:=@List.filter_congr
def Dz:=@List.filter_cons_of_neg
def DA:=@List.filter_cons_of_pos
def qB:=@List.filter_eq_nil_iff
def zU:=@List.filter_eq_self
def pN:=@List.filter_sublist
def kr:=@Array.length_toList
def wq:=@List.find?_eq_none
def r6:=@List.find?_some
def ox:=@List.flatMap_append
def nt:=@List.flatMap_cons
def qC:=@List.flatten_append
def kk:=@List.flatten_cons
def oy:=@List.getD_eq_getElem?_getD
def nu:=@List.getElem?_append_left
def pO:=@List.getElem?_append_right
def wu:=@List.getElem?_drop
def ye:=@Array.size_append
def jW:=@List.getElem?_eq_getElem
def k0:=@List.getElem?_eq_some_iff
def l7:=@List.getElem?_map
def zV:=@List.getElem?_range
def r7:=@List.getElem?_set
def l8:=@List.getElem?_take
def qD:=@List.getElem_of_mem
def dF:=@List.length_append
def fW:=@List.length_cons
def l2:=@List.length_drop
def oj:=@Array.toList_inj
def oz:=@List.length_filter_le
def iO:=@List.length_map
def hP:=@List.length_nil
def uc:=@List.length_singleton
def hg:=@List.length_take
def km:=@List.map_append
def dr:=@List.map_cons
def nv:=@List.map_map
def mO:=@List.map_nil
def dG:=@List.mem_append
def s6:=@BitVec.toNat_ofNat
def ud:=@List.mem_append_left
def c5:=@List.mem_cons
def wz:=@List.mem_cons_of_mem
def gz:=@List.mem_filter
def iB:=@List.mem_filterMap
def r8:=@List.mem_flatMap
def dg:=@List.mem_map
def pP:=@List.mem_of_find?_eq_some
def nw:=@List.mem_of_getElem?
def wA:=@List.mem_of_mem_drop
def BY:=@Bool.and_eq_false_iff
def wB:=@List.mem_of_mem_erase
def ue:=@List.mem_of_mem_take
def pQ:=@List.mem_range
def gL:=@List.mem_singleton
def lC:=@List.nil_append
def uf:=@List.nodup_append
def jX:=@List.nodup_cons
def nx:=@List.nodup_nil
def hr:=@List.not_mem_nil
def mG:=@List.pairwise_append
variable {au:Bool}
abbrev a8:=Nat->iG->Option Value
def b1(I aei:a8):Prop:=∀a o b,I a o=some b->aei a o=some b
def b1.refl(I:a8):b1 I I:=λ_ _ _ h=>h
def b1.trans{I J K:a8}(h:b1 I J)(H:b1 J K):b1 I K:=λ_ _ _ x=>H _ _ _ (h _ _ _ x)
inductive k2 where
 |ia (f:Nat)
 |mU (n:Nat)
 |row (i:Nat)
 |OE (i off:Nat)
 deriving DecidableEq
inductive U where
 |dH
 |undef
 |int (k:IntKind) (n:Int)
 |bool (b:Bool)
 |str (s:ByteArray)
 |bn (full:Bool) (xs:List (List U))
 |dI (cs:List U)
 |agg (cs:List U)
 |bO (vs:List U)
 |fn (f:Nat) (aY:List U)
 |aF
 |gT
 |own (d:Nat)
 |ptr (d off:Nat)
 |cc (d:Nat)
 |cD (f:Nat) (aY:List U)
 |gj
 |iY (b:Nat)
 |cU (k:k2) (d:Nat)
 |dK (bG:List (U×U))
 |gr (bG:List (U×U))
 |arr (xs:bX)
 deriving Inhabited
def lY(es:iu)(clock:Nat):Value:=.tuple #[.int .i64 (clock:Int),.tuple (es.map λa=>.tuple #[a.key,a.val,.int .i64 (a.born:Int)])]
theorem F8{es b:iu}{c a:Nat}(h:lY es c=lY b a):es=b/\c=a:=by
 simp only[lY,tK,Array.mk.injEq,iV,Value.int.injEq,true_and,and_true,Int.ofNat_inj]at h;refine⟨?_,h.1⟩;refine Array.map_inj_right (λe f d=>?_)|>.1 h.2;simp only[tK,Array.mk.injEq,iV,Value.int.injEq,true_and,and_true,Int.ofNat_inj]at d;obtain⟨l,m,k⟩:=e;obtain⟨j,i,g⟩:=f
 grind
def iP(es:iu)(clock:Nat):Prop:=(es.toList.map (·.born)).Nodup/\∀a∈es.toList,a.born<clock
mutual
def a1(I:a8):U->Value->Prop
 |.dH,_=>True
 |.undef,v=>v=Go.undef
 |.int k n,v=>v=.int k n
 |.bool b,v=>v=.bool b
 |.str s,v=>v=.string s
 |.bn full xs,v=>∃g c,v=.slice g xs.length c/\xs.length<=c/\c<=maxLen/\(full=true->c=xs.length)/\
   (xs=[]\/∃b o,g=some ⟨b,o,none⟩/\fT I b xs o)
 |.dI cs,v=>∃b o,v=.pointer (some ⟨b,o,none⟩)/\iw I b cs o
 |.agg cs,v=>∃a,v=.agg a/\bP I cs a.toList
 |.bO cs,v=>∃a,v=.tuple a/\bP I cs a.toList
 |.fn f aY,v=>∃a,v=.func (.func f) #[] a/\bP I aY a.toList
 |.aF,v=>v=.slice none 0 0
 |.gT,v=>v=.pointer none
 |.own _,_=>False
 |.ptr _ _,_=>False
 |.cc _,_=>False
 |.cD f aY,v=>∃a,v=.func (.func f) #[] a/\bP I aY a.toList
 |.gj,v=>∃g c,v=.slice (some g) 0 c/\c<=maxLen
 |.iY b,v=>v=.pointer (some ⟨b,0,none⟩)
 |.cU _ _,_=>False
 |.arr xs,v=>v=.agg (xs.map (Value.int .i64)).toArray
 |.dK h,v=>∃e d i,v=.map (some e)/\I e none=some (lY d i)/\ey I h d.toList/\iP d i
 |.gr h,v=>∃e d i j,v=.map (some e)/\I e none=some (lY d i)/\ey I h j/\j.Perm d.toList/\(h.map Prod.fst).Nodup
def ey(I:a8):List (U×U)->jN->Prop
 |[],b=>b=[]
 |(k,v)::r,b=>∃a c,b=a::c/\a1 I k a.key/\a1 I v a.val/\ey I r c
def bP(I:a8):List U->hD->Prop
 |[],a=>a=[]
 |x::r,a=>∃c b,a=c::b/\a1 I x c/\bP I r b
def iw(I:a8)(b:Nat):List U->Nat->Prop
 |[],_=>True
 |x::r,o=>(∃a,I b o=some a/\a1 I x a)/\iw I b r (o+1)
def fT(I:a8)(b:Nat):List (List U)->Nat->Prop
 |[],_=>True
 |e::r,o=>iw I b e o/\fT I b r (o+e.length)
end
def gU:Value->Bool|.slice ..=>true|_=>false
def l3:Value->Bool|.map ..=>true|_=>false
def bR:Value->iG
 |.pointer (some a)=>some a.block
 |.slice (some a) _ _=>some a.block
 |.map (some r)=>some r
 |_=>none
def ct:Value->cR
 |.tuple a=>a.toList.filterMap bR
 |v=>(bR v).toList
def i4{v:Value}{b:Nat}(h:bR v=some b):b∈ct v:=by
 cases v<;>first|(simp[bR]at h;done)|(simp only[ct,h];simp)
def yK{v:Value}{b a:Nat}(h:bR v=some b)(c:a∈ct v):a=b:=by
 cases v<;>first|(simp[bR]at h;done)|(simp only[ct,h]at c;simpa using c)
def FA:ct .nilFunc=[]:=rfl
def Cv:ct (.slice none 0 0)=[]:=rfl
def k2.rep:k2->Value->Value->Prop
 |.ia f,h,v=>∃b,bR h=some b/\v=.func (.func f) #[.pointer (some ⟨b,0,none⟩)] #[]
 |.mU n,h,v=>∃b,bR h=some b/\v=.slice (some ⟨b,0,none⟩) n n
 |.row i,h,v=>∃H:ig,h=.tuple H/\H.toList[i]?=some v
 |.OE i off,h,v=>∃(H:ig) (u:Value) (b:Nat),h=.tuple H/\H.toList[i]?=some u/\bR u=some b/\v=.pointer (some ⟨b,off,none⟩)
def aHu{k:k2}{v:Value}(h:k.rep .nilFunc v):False:=by
 cases k with
 |ia f=>obtain⟨a,h,_⟩:=h;cases h
 |mU n=>obtain⟨a,h,_⟩:=h;cases h
 |row i=>obtain⟨b,h,_⟩:=h;cases h
 |OE i off=>obtain⟨b,c,a,h,_⟩:=h;cases h
mutual
def aD(I:a8)(β:Nat->Value):U->Value->Prop
 |.agg cs,v=>∃a,v=.agg a/\bD I β cs a.toList
 |.bO cs,v=>∃a,v=.tuple a/\bD I β cs a.toList
 |.fn f aY,v=>∃a,v=.func (.func f) #[] a/\bD I β aY a.toList
 |.own d,v=>v=β d/\gU v=true
 |.ptr d off,v=>∃b,bR (β d)=some b/\v=.pointer (some ⟨b,off,none⟩)
 |.cc d,v=>v=β d/\l3 v=true
 |.dH,_=>True
 |.undef,v=>a1 I .undef v
 |.int k n,v=>a1 I (.int k n) v
 |.bool b,v=>a1 I (.bool b) v
 |.str s,v=>a1 I (.str s) v
 |.bn f xs,v=>a1 I (.bn f xs) v
 |.dI cs,v=>a1 I (.dI cs) v
 |.aF,v=>a1 I .aF v
 |.gT,v=>a1 I .gT v
 |.cD f aY,v=>a1 I (.cD f aY) v
 |.gj,v=>a1 I .gj v
 |.iY b,v=>a1 I (.iY b) v
 |.cU k d,v=>k.rep (β d) v
 |.dK c,v=>a1 I (.dK c) v
 |.gr c,v=>a1 I (.gr c) v
 |.arr xs,v=>a1 I (.arr xs) v
def bD(I:a8)(β:Nat->Value):List U->hD->Prop
 |[],a=>a=[]
 |x::r,a=>∃c b,a=c::b/\aD I β x c/\bD I β r b
end
mutual
def iZ{I aei:a8}(h:b1 I aei):∀(x:U) (v:Value),a1 I x v->a1 aei x v
 |.dH,_,_=>trivial
 |.undef,_,r=>r
 |.int _ _,_,r=>r
 |.bool _,_,r=>r
 |.str _,_,r=>r
 |.bn full xs,v,r=>by
   simp only[a1]at r ⊢;obtain⟨m,p,b,a,e,g,i⟩:=r;refine⟨m,p,b,a,e,g,?_⟩;rcases i with i|⟨c,o,i,n⟩
   .exact .inl i
   .exact .inr ⟨c,o,i,Ff h xs c o n⟩
 |.dI cs,v,r=>by
   simp only[a1]at r ⊢;obtain⟨c,o,b,a⟩:=r;exact⟨c,o,b,FL h cs c o a⟩
 |.agg cs,v,r=>by
   simp only[a1]at r ⊢;obtain⟨d,b,a⟩:=r;exact⟨d,b,k9 h cs _ a⟩
 |.bO cs,v,r=>by
   simp only[a1]at r ⊢;obtain⟨d,b,a⟩:=r;exact⟨d,b,k9 h cs _ a⟩
 |.fn f aY,v,r=>by
   simp only[a1]at r ⊢;obtain⟨d,b,a⟩:=r;exact⟨d,b,k9 h aY _ a⟩
 |.aF,_,r=>r
 |.gT,_,r=>r
 |.own _,_,r=>r
 |.ptr _ _,_,r=>r
 |.cc _,_,r=>r
 |.cD f aY,v,r=>by
   simp only[a1]at r ⊢;obtain⟨d,b,a⟩:=r;exact⟨d,b,k9 h aY _ a⟩
 |.gj,_,r=>by simp only[a1]at r ⊢;exact r
 |.iY _,_,r=>by simp only[a1]at r ⊢;exact r
 |.cU _ _,_,r=>r
 |.arr _,v,r=>by simpa only[a1]using r
 |.dK j,v,r=>by
   simp only[a1]at r ⊢;obtain⟨c,l,k,b,a,e,g⟩:=r;exact⟨c,l,k,b,h _ _ _ a,qa h j _ e,g⟩
 |.gr j,v,r=>by
   simp only[a1]at r ⊢;obtain⟨c,l,k,q,b,a,e,g⟩:=r;exact⟨c,l,k,q,b,h _ _ _ a,qa h j _ e,g⟩
def qa{I aei:a8}(h:b1 I aei):∀(x:List (U×U)) (es:jN),ey I x es->ey aei x es
 |[],_,r=>r
 |(k,u)::x,es,r=>by
   simp only[ey]at r ⊢;obtain⟨e,a,f,b,c,d⟩:=r;exact⟨e,a,f,iZ h k _ b,iZ h u _ c,qa h x a d⟩
def k9{I aei:a8}(h:b1 I aei):∀(x:List U) (v:hD),bP I x v->bP aei x v
 |[],_,r=>r
 |x::xs,v,r=>by
   simp only[bP]at r ⊢;obtain⟨b,a,e,c,d⟩:=r;exact⟨b,a,e,iZ h x b c,k9 h xs a d⟩
def FL{I aei:a8}(h:b1 I aei):∀(x:List U) (b o:Nat),iw I b x o->iw aei b x o
 |[],_,_,r=>r
 |x::xs,b,o,r=>by
   simp only[iw]at r ⊢;obtain⟨⟨a,e,c⟩,d⟩:=r;exact⟨⟨a,h _ _ _ e,iZ h x a c⟩,FL h xs b (o+1) d⟩
def Ff{I aei:a8}(h:b1 I aei):∀(x:List (List U)) (b o:Nat),fT I b x o->fT aei b x o
 |[],_,_,r=>r
 |x::xs,b,o,r=>by
   simp only[fT]at r ⊢;exact⟨FL h x b o r.1,Ff h xs b (o+x.length) r.2⟩
end
def fQ(β β':Nat->Value):Prop:=∀a,β a=.nilFunc\/β' a=β a
def fQ.refl(β:Nat->Value):fQ β β:=λ_=>.inr rfl
mutual
def U.refs(p:Nat->Bool):U->Bool
 |.agg cs=>lZ p cs
 |.bO cs=>lZ p cs
 |.fn _ cs=>lZ p cs
 |.own d=>p d
 |.ptr d _=>p d
 |.cU _ d=>p d
 |.cc d=>p d
 |_=>false
def lZ(p:Nat->Bool):List U->Bool
 |[]=>false
 |x::r=>x.refs p||lZ p r
end
mutual
def Cj{p:Nat->Bool}(h:∀d,p d=false):∀x:U,x.refs p=false
 |.dH|.undef|.int _ _|.bool _|.str _|.bn _ _|.dI _|.aF|.gT|.cD _ _|.gj|.iY _|.dK _|.gr _|.arr _=>rfl
 |.agg cs=>by simp only[U.refs];exact uV h cs
 |.bO cs=>by simp only[U.refs];exact uV h cs
 |.fn _ cs=>by simp only[U.refs];exact uV h cs
 |.own d=>h d
 |.ptr d _=>h d
 |.cU _ d=>h d
 |.cc d=>h d
def uV{p:Nat->Bool}(h:∀d,p d=false):∀x:List U,lZ p x=false
 |[]=>rfl
 |x::r=>by simp only[lZ,Cj h x,uV h r,ow]
end
mutual
def U.cC(r:Nat->Nat):U->U
 |.agg cs=>.agg (k1 r cs)
 |.bO cs=>.bO (k1 r cs)
 |.fn f cs=>.fn f (k1 r cs)
 |.own d=>.own (r d)
 |.ptr d o=>.ptr (r d) o
 |.cU k d=>.cU k (r d)
 |.cc d=>.cc (r d)
 |x=>x
def k1(r:Nat->Nat):List U->List U
 |[]=>[]
 |x::t=>x.cC r::k1 r t
end
mutual
def U.th:∀x:U,x.cC id=x
 |.dH|.undef|.int _ _|.bool _|.str _|.bn _ _|.dI _|.aF|.gT|.cD _ _|.gj|.iY _|.dK _|.gr _|.arr _|.own _|.ptr _ _|.cU _ _|.cc _=>rfl
 |.agg cs=>by simp only[U.cC,vq cs]
 |.bO cs=>by simp only[U.cC,vq cs]
 |.fn _ cs=>by simp only[U.cC,vq cs]
def vq:∀l:List U,k1 id l=l
 |[]=>rfl
 |x::t=>by simp only[k1,U.th x,vq t]
end
mutual
theorem CX{I aei:a8}{β β':Nat->Value}{r:Nat->Nat}{p:Nat->Bool}(h:b1 I aei)(c:∀d,p d=false->β d=.nilFunc\/β' (r d)=β d):∀(x:U) (v:Value),x.refs p=false->aD I β x v->aD aei β' (x.cC r) v
 |.dH,_,_,_=>trivial
 |.undef,v,_,a|.int _ _,v,_,a|.bool _,v,_,a|.str _,v,_,a|.bn _ _,v,_,a|.dI _,v,_,a|.aF,v,_,a|.gT,v,_,a|.cD _ _,v,_,a|.gj,v,_,a|.iY _,v,_,a|.dK _,v,_,a|.gr _,v,_,a|.arr _,v,_,a=>by simp only[aD,U.cC]at a ⊢;exact iZ h _ v a
 |.agg cs,v,e,a|.bO cs,v,e,a|.fn _ cs,v,e,a=>by
   simp only[aD,U.cC,U.refs]at a e ⊢;obtain⟨i,g,f⟩:=a;exact⟨i,g,y2 h c cs _ e f⟩
 |.own d,v,e,a|.cc d,v,e,a=>by
   simp only[aD,U.cC,U.refs]at a e ⊢;obtain⟨rfl,a⟩:=a;rcases c d e with b|b
   .rw[b]at a;cases a
   .grind
 |.ptr d o,v,e,a=>by
   simp only[aD,U.cC,U.refs]at a e ⊢;rcases c d e with b|b
   .rw[b]at a;obtain⟨_,a,_⟩:=a;cases a
   .rw[b];exact a
 |.cU _ d,v,e,a=>by
   simp only[aD,U.cC,U.refs]at a e ⊢;rcases c d e with b|b
   .rw[b]at a;exact(aHu a).elim
   .rw[b];exact a
theorem y2{I aei:a8}{β β':Nat->Value}{r:Nat->Nat}{p:Nat->Bool}(h:b1 I aei)(a:∀d,p d=false->β d=.nilFunc\/β' (r d)=β d):∀(x:List U) (v:hD),lZ p x=false->bD I β x v->bD aei β' (k1 r x) v
 |[],_,_,q=>q
 |x::xs,v,e,q=>by
   simp only[bD,k1,lZ,kj]at q e ⊢;obtain⟨c,b,i,f,g⟩:=q;exact⟨c,b,i,CX h a x c e.1 f,y2 h a xs b e.2 g⟩
end
section
variable {I aei:a8}{β β':Nat->Value}{p:Nat->Bool}
def yL(h:b1 I aei)(a:fQ β β')(x:U)(v:Value)(q:aD I β x v):aD aei β' x v:=x.th▸CX (p:=λ_=>false) h (λb _=>a b) x v (Cj (λ_=>rfl) x) q
def Lq(h:b1 I aei)(a:fQ β β')(x:List U)(v:hD)(q:bD I β x v):bD aei β' x v:=vq x▸y2 (p:=λ_=>false) h (λb _=>a b) x v (uV (λ_=>rfl) x) q
def sW(a:∀d,p d=false->β' d=β d)(x:U)(v:Value)(e:x.refs p=false)(q:aD I β x v):aD I β' x v:=x.th▸CX (b1.refl I) (λd e=>.inr (a d e)) x v e q
end
inductive gc where
 |sl (T:TypeId) (sz:Nat) (xs:List (List U))
 |mp (K E:TypeId) (bG:List (U×U))
inductive b4 where
 |cells (T:TypeId) (cs:List U)
 |slice (T:TypeId) (sz:Nat) (xs:List (List U)) (k:Nat) (bL:Bool)
 |map (K E:TypeId) (bG:List (U×U))
 |win (T:TypeId) (sz:Nat) (xs:List (List U))
 |jY (K E:TypeId) (bG:List (U×U))
 |gl (es:iu) (clock:Nat) (K E:TypeId) (bG:List (U×U))
 |iter (cB aoW anx:Nat) (seen:lT)
 |hdr (cB n:Nat)
 |de (dV:List gc)
 |hM (T:TypeId) (e n:Nat) (af0:Option (iG×Nat))
 |oA (T:TypeId) (sz:Nat) (xs:List (List U)) (afl e:Nat) (af0:Option (iG×Nat))
 |fL (T:TypeId) (sz:Nat) (xs:List (List U)) (afl e:Nat) (af0:Option (iG×Nat))
 |eo (K E:TypeId) (e:Nat) (keys:List U) (af0:Option (iG×Nat)) (ahC:Option (iu×Nat))
 |qc (T:TypeId) (xs:List (List U)) (t:Nat)
 |vec (T:TypeId) (xs:bX)
 |tC (es:iu) (clock:Nat) (bG:List (U×U)) (seen:lT)
abbrev ah:=List (Nat×b4)
def ah.get:ah->Nat->Option b4
 |[],_=>none
 |(k,v)::r,n=>bif Nat.beq k n then some v else ah.get r n
abbrev av:=List (Nat×U)
def av.get:av->Nat->U
 |[],_=>.dH
 |(k,v)::r,n=>bif Nat.beq k n then v else av.get r n
def av.put(env:av)(d:iG)(v:U):av:=match d with|some t=>(t,v)::env|none=>env
theorem aFr(k:Nat)(v:U)(r:av)(n:Nat):av.get ((k,v)::r) n=if k=n then v else av.get r n:=by
 simp only[av.get]
 simp_all
theorem aFc(k:Nat)(v:b4)(r:ah)(n:Nat):ah.get ((k,v)::r) n=if k=n then some v else ah.get r n:=by
 simp only[ah.get]
 simp_all
mutual
def iQ:Value->U
 |.int k n=>.int k n
 |.bool b=>.bool b
 |.string s=>.str s
 |.slice none 0 0=>.aF
 |.pointer none=>.gT
 |.agg ⟨cs⟩=>.agg (l0 cs)
 |_=>.dH
def l0:hD->List U
 |[]=>[]
 |x::r=>iQ x::l0 r
end
mutual
def Gi(I:a8)(β:Nat->Value):∀v,aD I β (iQ v) v
 |.int k n=>by simp[iQ,aD,a1]
 |.bool b=>by simp[iQ,aD,a1]
 |.string s=>by simp[iQ,aD,a1]
 |.slice none 0 0=>by simp[iQ,aD,a1]
 |.slice none 0 (n+1)=>by simp[iQ,aD]
 |.slice none (m+1) n=>by simp[iQ,aD]
 |.slice (some a) m n=>by simp[iQ,aD]
 |.pointer none=>by simp[iQ,aD,a1]
 |.pointer (some a)=>by simp[iQ,aD]
 |.agg ⟨cs⟩=>by simp only[iQ,aD];exact⟨_,rfl,Ck I β cs⟩
 |.float _ _=>by simp[iQ,aD]
 |.complex _ _ _=>by simp[iQ,aD]
 |.map _=>by simp[iQ,aD]
 |.chan _=>by simp[iQ,aD]
 |.func _ _ _=>by simp[iQ,aD]
 |.nilFunc=>by simp[iQ,aD]
 |.iface _ _=>by simp[iQ,aD]
 |.nilIface=>by simp[iQ,aD]
 |.tuple _=>by simp[iQ,aD]
def Ck(I:a8)(β:Nat->Value):∀vs,bD I β (l0 vs) vs
 |[]=>by simp[l0,bD]
 |x::r=>by simp only[l0,bD];exact⟨x,r,rfl,Gi I β x,Ck I β r⟩
end
def av.ev(env:av):Operand->U
 |.tmp t=>env.get t
 |.const v=>iQ v
 |.func f=>.fn f []
 |.global g=>.iY g
structure bI where
 P:Program
 N:Nat
 ids:cR
 au:Bool
def r9:bX:=[0,1,56,2,57,49,28,3,61,58,42,50,38,29,17,4,62,47,59,36,45,43,51,22,53,39,33,30,24,18,12,5,63,55,48,27,60,41,37,16,46,35,44,21,52,32,23,11,54,26,40,15,34,20,31,10,25,14,19,9,13,8,7,6]
def ug(I:a8):Prop:=∀(o:Nat) a,r9[o]?=some a->I 0 (some o)=some (.int .u8 a)
def ug.mono{I aei:a8}(h:ug I)(bt:b1 I aei):ug aei:=λo n H=>bt _ _ _ (h o n H)
structure dz where
 B:Nat
 w0:World
 I0:a8
 sn:cR
 rC:Nat->Value
def Place(cx:dz)(b:Nat):Prop:=cx.B<=b\/b∈cx.sn
def h4(cx:dz)(I:a8)(w:World):gc->Value->Prop
 |.sl g e xs,v=>(v=.slice none 0 0/\xs=[])\/
   ∃a aY c,v=.slice (some ⟨a,0,none⟩) xs.length aY/\xs.length<=aY/\aY<=maxLen/\w.heap[a]?=some (.cells c g (0,0))/\c.size=aY*e/\
    bP I xs.flatten (c.toList.take (xs.length*e))/\(∀i∈xs,i.length=e)/\(∀o:Nat,I a o=none)/\Place cx a
 |.mp _ _ h,v=>∃b d f,v=.map (some b)/\w.heap[b]?=some (.map d f)/\ey I h d.toList/\(∀o,I b o=none)/\Place cx b/\iP d f
def g4(cx:dz)(I:a8)(w:World):List gc->hD->Prop
 |[],c=>c=[]
 |x::r,c=>∃b a,c=b::a/\h4 cx I w x b/\(∀d,bR b=some d->d∉a.filterMap bR)/\g4 cx I w r a
def pk(β:Nat->Value)(a b:hD):Option (iG×Nat)->Prop
 |none=>b=a
 |some (none,_)=>b=a
 |some (some i,t)=>i<a.length/\β t≠.nilFunc/\b=a.set i (β t)
def h2(I:a8):List U->hD->jN->Prop
 |[],c,b=>c=[]/\b=[]
 |k::g,c,b=>∃f d a e,c=f::d/\b=a::e/\a1 I k a.key/\a.val=f/\h2 I g d e
def mx(sz d:Nat)(c vs:hD):hD:=vs.mapIdx λa b=>if a%sz=d then c.getD (a / sz) b else b
def bl(cx:dz)(I:a8)(β:Nat->Value)(w:World)(d:Nat):b4->Prop
  |.cells T cs=>β d=.nilFunc\/∃b arr,β d=.pointer (some ⟨b,0,none⟩)/\w.heap[b]?=some (.cells arr T (0,0))/\bD I β cs arr.toList/\(∀o,I b o=none)/\Place cx b
  |.slice T sz xs k bL=>β d=.nilFunc\/(β d=.slice none 0 0/\xs=[]/\k=0)\/
      ∃b aY arr,β d=.slice (some ⟨b,0,none⟩) xs.length aY/\xs.length<=aY/\aY<=maxLen/\w.heap[b]?=some (.cells arr T (0,0))/\arr.size=aY*sz/\
        bP I xs.flatten (arr.toList.take (xs.length*sz))/\(∀e∈xs,e.length=sz)/\k<=xs.length/\
        (bL=true->∀o,o<xs.length*sz->I b o=arr[o]?)/\(∀o,k*sz<=o->I b o=none)/\Place cx b
  |.map _ _ h=>β d=.nilFunc\/∃r es clock,β d=.map (some r)/\w.heap[r]?=some (.map es clock)/\ey I h es.toList/\(∀o,I r o=none)/\Place cx r/\iP es clock
  |.jY _ _ h=>β d=.nilFunc\/∃r es clock,β d=.map (some r)/\I r none=some (lY es clock)/\ey I h es.toList/\Place cx r/\iP es clock
  |.gl es clock _ _ h=>β d=.nilFunc\/∃r,β d=.map (some r)/\w.heap[r]?=some (.map es clock)/\ey I h es.toList/\(∀o,I r o=none)/\Place cx r/\iP es clock
  |.iter cB s p seen=>β d=.nilFunc\/∃r j,β d=.pointer (some ⟨r,0,none⟩)/\bR (β cB)=some j/\w.heap[r]?=some (.mapIter (some j) s seen p)/\(∀o,I r o=none)/\Place cx r
  |.hdr cB n=>β d=.pointer none/\∃a c,β cB=.slice a n c
  |.de dV=>β d=.nilFunc\/∃f:ig,β d=.tuple f/\g4 cx I w dV f.toList
  |.hM T e n g=>β d=.nilFunc\/∃b aY arr f,β d=.slice (some ⟨b,0,none⟩) n aY/\n<=aY/\aY<=maxLen/\w.heap[b]?=some (.cells arr T (0,0))/\arr.size=aY/\
        β e=.tuple f/\f.size=n/\pk β f.toList (arr.toList.take n) g/\(∀o:Nat,I b o=none)/\Place cx b
  |.oA T sz xs l e g=>β d=.nilFunc\/∃b aY arr f vs,β d=.slice (some ⟨b,0,none⟩) xs.length aY/\xs.length<=aY/\aY<=maxLen/\w.heap[b]?=some (.cells arr T (0,0))/\arr.size=aY*sz/\
        β e=.tuple f/\(l<sz->f.size=xs.length)/\(bP I xs.flatten vs/\(∀e∈xs,e.length=sz)/\pk β (mx sz l f.toList vs) (arr.toList.take (xs.length*sz)) g)/\(∀o:Nat,I b o=none)/\Place cx b
  |.fL T sz xs l e g=>β d=.nilFunc\/∃b aY arr f i vs,β d=.slice (some ⟨b,0,none⟩) xs.length aY/\xs.length<=aY/\aY<=maxLen/\w.heap[b]?=some (.cells arr T (0,0))/\arr.size=aY*sz/\
        β e=.tuple f/\f.size=xs.length/\pk β f.toList i g/\(bP I xs.flatten vs/\(∀e∈xs,e.length=sz)/\arr.toList.take (xs.length*sz)=mx sz l i vs)/\(∀o:Nat,I b o=none)/\Place cx b
  |.eo _ _ e keys g m=>β d=.nilFunc\/∃r es clock f i,β d=.map (some r)/\w.heap[r]?=some (.map es clock)/\β e=.tuple f/\pk β f.toList i g/\h2 I keys i es.toList/\
        (∀o,I r o=none)/\Place cx r/\iP es clock/\(∀q,m=some q->q=(es,clock))
  |.qc T xs t=>β d=.nilFunc\/∃b aY arr,β d=.slice (some ⟨b,0,none⟩) (xs.length+1) aY/\xs.length+1<=aY/\aY<=maxLen/\w.heap[b]?=some (.cells arr T (0,0))/\arr.size=aY/\
        bP I xs.flatten (arr.toList.take xs.length)/\(∀e∈xs,e.length=1)/\arr[xs.length]?=some (β t)/\β t≠.nilFunc/\(∀o:Nat,I b o=none)/\Place cx b
  |.vec T xs=>β d=.nilFunc\/∃b arr,β d=.pointer (some ⟨b,0,none⟩)/\w.heap[b]?=some (.cells arr T (0,0))/\arr.toList=xs.map (Value.int .i64)/\(∀o,I b o=none)/\Place cx b
  |.tC es clock h seen=>β d=.nilFunc\/∃r j,β d=.pointer (some ⟨r,0,none⟩)/\w.heap[r]?=some (.mapIter (some j) clock seen clock)/\I j none=some (lY es clock)/\ey I h es.toList/\iP es clock/\(∀o,I r o=none)/\Place cx r
  |.win T sz xs=>β d=.nilFunc\/(β d=.slice none 0 0/\xs=[])\/
      ∃b o0 aY arr,β d=.slice (some ⟨b,o0,none⟩) xs.length aY/\xs.length<=aY/\aY<=maxLen/\w.heap[b]?=some (.cells arr T (0,0))/\(xs.length<aY->o0+aY*sz<=arr.size)/\
        fT I b xs o0/\(∀e∈xs,e.length=sz)/\(xs.length<aY->∀o,o0+xs.length*sz<=o->I b o=none)/\Place cx b
variable {cx jD:dz}{w w':World}
def h4.go{I aei:a8}{x:gc}{v:Value}(bt:b1 I aei)(ae:∀b,bR v=some b->(b<w.heap.size->w'.heap[b]?=w.heap[b]?)/\(∀o,aei b o=I b o)/\(Place cx b->Place jD b))(h:h4 cx I w x v):h4 jD aei w' x v:=by
 cases x with
 |sl T sz xs=>
  rcases h with h|⟨b,aY,arr,H,O,S,Q,Y,X,ag,aj,ak⟩
  .exact .inl h
  .obtain⟨aa,Z,ab⟩:=ae b (by rw[H];rfl);exact .inr ⟨b,aY,arr,H,O,S,(aa (lG.1 Q).1).trans Q,Y,k9 bt _ _ X,ag,λo=>(Z o).trans (aj o),ab ak⟩
 |mp K E am=>
  obtain⟨r,es,clock,H,O,S,Q,Y,X⟩:=h;obtain⟨aa,Z,ab⟩:=ae r (by rw[H];rfl);exact⟨r,es,clock,H,(aa (lG.1 O).1).trans O,qa bt _ _ S,λo=>(Z o).trans (Q o),ab Y,X⟩
theorem g4.go{cx jD:dz}{I aei:a8}{w w':World}(bt:b1 I aei):∀{dV:List gc} {vs:hD},(∀b∈vs.filterMap bR,(b<w.heap.size->w'.heap[b]?=w.heap[b]?)/\(∀o,aei b o=I b o)/\(Place cx b->Place jD b))->g4 cx I w dV vs->g4 jD aei w' dV vs
 |[],_,_,h=>h
 |x::r,vs,H,h=>by
  obtain⟨u,S,rfl,Y,O,Q⟩:=h;refine⟨u,S,rfl,Y.go bt λb X=>H b ?_,O,g4.go bt (λb Z=>H b ?_) Q⟩
  .simp[X]
  .grind
def h2.mono{I aei:a8}(bt:b1 I aei):∀{ks:List U} {vs:hD} {es:jN},h2 I ks vs es->h2 aei ks vs es
 |[],_,_,h=>h
 |k::ks,vs,es,h=>by
  obtain⟨v,Q,e,Y,Z,H,O,S,X⟩:=h;exact⟨v,Q,e,Y,Z,H,iZ bt k _ O,S,h2.mono bt X⟩
def kR(p:Nat->Bool):b4->Bool
 |.cells _ cs=>lZ p cs
 |.iter a _ _ _=>p a
 |.hdr a _=>p a
 |.fL _ _ _ _ e h=>p e||(match h with|some (_,t)=>p t|none=>false)
 |.oA _ _ _ _ e h=>p e||(match h with|some (_,t)=>p t|none=>false)
 |.hM _ e _ h=>p e||(match h with|some (_,t)=>p t|none=>false)
 |.eo _ _ e _ h _=>p e||(match h with|some (_,t)=>p t|none=>false)
 |.qc _ _ t=>p t
 |_=>false
def gZ{b:Nat}{x:Obj}(h:w.heap[b]?=some x):b<w.heap.size:=(lG.1 h).1
def mP(r:Nat->Nat):Option (iG×Nat)->Option (iG×Nat)
 |none=>none
 |some (i,t)=>some (i,r t)
def b4.cC(r:Nat->Nat):b4->b4
 |.cells T cs=>.cells T (k1 r cs)
 |.iter O X S seen=>.iter (r O) X S seen
 |.hdr O n=>.hdr (r O) n
 |.hM T e n h=>.hM T (r e) n (mP r h)
 |.oA T sz xs H e h=>.oA T sz xs H (r e) (mP r h)
 |.fL T sz xs H e h=>.fL T sz xs H (r e) (mP r h)
 |.eo K E e keys h Q=>.eo K E (r e) keys (mP r h) Q
 |.qc T xs t=>.qc T xs (r t)
 |o=>o
def b4.th:∀o:b4,o.cC id=o
 |.cells T cs=>by simp only[b4.cC,vq cs]
 |.slice ..|.map ..|.jY ..|.gl ..|.de ..|.vec ..|.tC ..|.iter ..|.hdr ..|.qc ..=>rfl
 |.hM _ _ _ h|.oA _ _ _ _ _ h|.fL _ _ _ _ _ h|.eo _ _ _ _ h _=>by cases h<;>rfl
 |.win ..=>rfl
theorem bl.go{cx jD:dz}{I aei:a8}{β β':Nat->Value}{w w':World}{r:Nat->Nat}{p:Nat->Bool}{d cA:Nat}{o:b4}(bt:b1 I aei)(hd:β' cA=β d)(aE:∀x,p x=false->β x=.nilFunc\/β' (r x)=β x)
  (az:∀b∈ct (β d),(b<w.heap.size->w'.heap[b]?=w.heap[b]?)/\(∀o,aei b o=I b o)/\(Place cx b->Place jD b)) (ae:kR p o=false) (h:bl cx I β w d o):bl jD aei β' w' cA (o.cC r):=by
 have ao:∀x,p x=false->β x≠.nilFunc->β' (r x)=β x:=λx aJ aG=>(aE x aJ).resolve_left aG
 have aB:∀{h:Option (iG×Nat)} {an ar:hD},(match h with|some (_,t)=>p t|none=>false)=false->pk β an ar h->pk β' an ar (mP r h):=λ{h an ar} e q=>by
  match h,e,q with
  |none,_,q=>exact q
  |some (none,_),_,q=>exact q
  |some (some i,t),e,⟨H,O,Q⟩=>have k:=ao t e O;exact⟨H,by rw[k];exact O,by rw[k];exact Q⟩
 have ak:∀{b},bR (β d)=some b->∀{x},w.heap[b]?=some x->w'.heap[b]?=some x/\(∀{u o},I b o=u->aei b o=u)/\(Place cx b->Place jD b):=λe _ q=>by
  obtain⟨Z,X,aa⟩:=az _ (i4 e);exact⟨(Z (gZ q)).trans q,λe=>(X _).trans e,aa⟩
 cases o with
 |hdr aD n=>
  simp only[bl,b4.cC,hd]at h ⊢;obtain⟨H,a,c,O⟩:=h;exact⟨H,a,c,by rw[ao aD ae (by rw[O];nofun)];exact O⟩
 |de dV=>
  simp only[bl,b4.cC,hd]at h ⊢;rcases h with q|⟨an,H,O⟩
  .exact .inl q
  .exact .inr ⟨an,H,O.go bt λb aI=>az b (by rw[H];exact aI)⟩
 |cells T cs=>
  simp only[bl,b4.cC,hd]at h ⊢;rcases h with q|⟨b,arr,H,O,Q,S,Y⟩
  .exact .inl q
  .obtain⟨Z,X,aa⟩:=ak (by rw[H];rfl) O;exact .inr ⟨b,arr,H,Z,y2 bt aE cs _ ae Q,λo=>X (S o),aa Y⟩
 |slice T sz xs k bL=>
  simp only[bl,b4.cC,hd]at h ⊢;rcases h with q|q|⟨b,aY,arr,H,O,Q,S,Y,ab,ag,aj,am,aq,ax⟩
  .exact .inl q
  .grind
  .obtain⟨Z,X,aa⟩:=ak (by rw[H];rfl) S;exact .inr (.inr ⟨b,aY,arr,H,O,Q,Z,Y,k9 bt _ _ ab,ag,aj,λhz o aw=>X (am hz o aw),λo aw=>X (aq o aw),aa ax⟩)
 |win T sz xs=>
  simp only[bl,b4.cC,hd]at h ⊢;rcases h with q|q|⟨b,aK,aY,arr,H,O,Q,S,Y,ab,ag,aj,am⟩
  .exact .inl q
  .grind
  .obtain⟨Z,X,aa⟩:=ak (by rw[H];rfl) S;exact .inr (.inr ⟨b,aK,aY,arr,H,O,Q,Z,Y,Ff bt _ _ _ ab,ag,λhz o aw=>X (aj hz o aw),aa am⟩)
 |map K E aC=>
  simp only[bl,b4.cC,hd]at h ⊢;rcases h with q|⟨b,es,clock,H,O,Q,S,Y,ab⟩
  .exact .inl q
  .obtain⟨Z,X,aa⟩:=ak (by rw[H];rfl) O;exact .inr ⟨b,es,clock,H,Z,qa bt _ _ Q,λo=>X (S o),aa Y,ab⟩
 |jY K E aC=>
  simp only[bl,b4.cC,hd]at h ⊢;rcases h with q|⟨b,es,clock,H,O,Q,S,Y⟩
  .exact .inl q
  .exact .inr ⟨b,es,clock,H,bt _ _ _ O,qa bt _ _ Q,(az b (i4 (by rw[H];rfl))).2.2 S,Y⟩
 |gl es clock K E aC=>
  simp only[bl,b4.cC,hd]at h ⊢;rcases h with q|⟨b,H,O,Q,S,Y,ab⟩
  .exact .inl q
  .obtain⟨Z,X,aa⟩:=ak (by rw[H];rfl) O;exact .inr ⟨b,H,Z,qa bt _ _ Q,λo=>X (S o),aa Y,ab⟩
 |iter aD aR aN seen=>
  simp only[bl,b4.cC,hd]at h ⊢;rcases h with q|⟨b,aA,H,O,Q,S,Y⟩
  .exact .inl q
  .obtain⟨Z,X,aa⟩:=ak (by rw[H];rfl) Q;exact .inr ⟨b,aA,H,by rw[ao aD ae λe=>by rw[e]at O;cases O];exact O,Z,λo=>X (S o),aa Y⟩
 |hM T e n ay=>
  simp only[bl,b4.cC,hd]at h ⊢;simp only[kR,kj]at ae;rcases h with q|⟨b,aY,arr,an,H,O,Q,S,Y,ab,ag,aj,am,aq⟩
  .exact .inl q
  .obtain⟨Z,X,aa⟩:=ak (by rw[H];rfl) S
   grind
 |oA T sz xs aH e ay=>
  simp only[bl,b4.cC,hd]at h ⊢;simp only[kR,kj]at ae;rcases h with q|⟨b,aY,arr,an,vs,H,O,Q,S,Y,ab,ag,aj,am,aq⟩
  .exact .inl q
  .obtain⟨Z,X,aa⟩:=ak (by rw[H];rfl) S;exact .inr ⟨b,aY,arr,an,vs,H,O,Q,Z,Y,(ao e ae.1 (by rw[ab];nofun)).trans ab,ag,⟨k9 bt _ _ aj.1,aj.2.1,aB ae.2 aj.2.2⟩,λo=>X (am o),aa aq⟩
 |fL T sz xs aH e ay=>
  simp only[bl,b4.cC,hd]at h ⊢;simp only[kR,kj]at ae;rcases h with q|⟨b,aY,arr,an,ar,vs,H,O,Q,S,Y,ab,ag,aj,am,aq,ax⟩
  .exact .inl q
  .obtain⟨Z,X,aa⟩:=ak (by rw[H];rfl) S;exact .inr ⟨b,aY,arr,an,ar,vs,H,O,Q,Z,Y,(ao e ae.1 (by rw[ab];nofun)).trans ab,ag,aB ae.2 aj,⟨k9 bt _ _ am.1,am.2⟩,λo=>X (aq o),aa ax⟩
 |eo K E e keys ay aL=>
  simp only[bl,b4.cC,hd]at h ⊢;simp only[kR,kj]at ae;rcases h with q|⟨b,es,clock,an,ar,H,O,Q,S,Y,ab,ag,aj⟩
  .exact .inl q
  .obtain⟨Z,X,aa⟩:=ak (by rw[H];rfl) O;exact .inr ⟨b,es,clock,an,ar,H,Z,(ao e ae.1 (by rw[Q];nofun)).trans Q,aB ae.2 S,Y.mono bt,λo=>X (ab o),aa ag,aj⟩
 |qc T xs t=>
  simp only[bl,b4.cC,hd]at h ⊢;rcases h with q|⟨b,aY,arr,H,O,Q,S,Y,ab,ag,aj,am,aq,ax⟩
  .exact .inl q
  .obtain⟨Z,X,aa⟩:=ak (by rw[H];rfl) S;exact .inr ⟨b,aY,arr,H,O,Q,Z,Y,k9 bt _ _ ab,ag,by rw[ao t ae am];exact aj,by rw[ao t ae am];exact am,λo=>X (aq o),aa ax⟩
 |vec T xs=>
  simp only[bl,b4.cC,hd]at h ⊢;rcases h with q|⟨b,arr,H,O,Q,S,Y⟩
  .exact .inl q
  .obtain⟨Z,X,aa⟩:=ak (by rw[H];rfl) O
   grind
 |tC es clock aC seen=>
  simp only[bl,b4.cC,hd]at h ⊢;rcases h with q|⟨b,aA,H,O,Q,S,Y,ab,ag⟩
  .exact .inl q
  .obtain⟨Z,X,aa⟩:=ak (by rw[H];rfl) O;exact .inr ⟨b,aA,H,Z,bt _ _ _ Q,qa bt _ _ S,Y,λo=>X (ab o),aa ag⟩
def Fw{p:Nat->Bool}(h:∀d,p d=false)(o:b4):kR p o=false:=by
 cases o<;>simp only[kR,h,uV h,Bool.false_or]<;>split<;>rfl
variable {o:b4}
def bl.Ai{I aei:a8}{β β':Nat->Value}{d cA:Nat}(bt:b1 I aei)(hd:β' cA=β d)(H:fQ β β')
  (O:∀b∈ct (β d),(b<w.heap.size->w'.heap[b]?=w.heap[b]?)/\(∀o,aei b o=I b o)/\(Place cx b->Place jD b)) (h:bl cx I β w d o):bl jD aei β' w' cA o:=
 o.th▸h.go (r:=id) (p:=λ_=>false) bt hd (λx _=>H x) O (Fw (λ_=>rfl) o)
def bl.heap{cx:dz}{I:a8}{β:Nat->Value}{w w':World}{d:Nat}{o:b4}(e:w'.heap=w.heap)(h:bl cx I β w d o):bl cx I β w' d o:=h.Ai (b1.refl I) rfl (fQ.refl β) λ_ _=>⟨λ_=>by rw[e],λ_=>rfl,id⟩
def bl.beta{I:a8}{β β':Nat->Value}{d:Nat}{p:Nat->Bool}(H:∀d,p d=false->β' d=β d)(hd:p d=false)(O:kR p o=false)
  (h:bl cx I β w d o):bl cx I β' w d o:=o.th▸h.go (r:=id) (b1.refl I) (H d hd) (λx e=>.inr (H x e)) (λ_ _=>⟨λ_=>rfl,λ_=>rfl,id⟩) O
def a8.on(I:a8)(f:Nat->Nat->Option Value):a8:=λb o=>match o with
 |none=>I b none
 |some o=>f b o
structure bE(G:bI)(cx:dz)(I:a8)(β:Nat->Value)(σ:ah)(w:World):Prop where
 good:∀b (o:Nat) v,I b o=some v->w.cell? ⟨b,o,none⟩=some v
 fA:∀b v,I b none=some v->∃es clock,w.heap[b]?=some (.map es clock)/\v=lY es clock
 fV:b1 cx.I0 I
 gm:∀b,b<cx.B->b∉cx.sn->∀o,I b o=cx.I0 b o
 frame:∀b,b<cx.B->b∉cx.sn->w.heap[b]?=cx.w0.heap[b]?
 size:cx.B<=w.heap.size
 tape:w.tape=cx.w0.tape
 os:w.os=cx.w0.os
 output:w.output=cx.w0.output
 drawn:cx.w0.drawn<=w.drawn
 bY:∀d o,σ.get d=some o->bl cx I β w d o
 cQ:∀d cA,(σ.get d).isSome->(σ.get cA).isSome->d≠cA->∀b∈ct (β d),b∉ct (β cA)
 keep:∀d∈G.ids,β d=cx.rC d
 tab:G.au=true->ug cx.I0
variable {G:bI}{σ:ah}
def bE.sep{I:a8}{β:Nat->Value}(h:bE G cx I β σ w):∀d cA,(σ.get d).isSome->(σ.get cA).isSome->d≠cA->∀b,bR (β d)=some b->bR (β cA)≠some b:=
 λd cA X O Q b H S=>h.cQ d cA X O Q b (i4 H) (i4 S)
def jb(P:Program)(Φ:Value->World->Prop):Result Next->Prop
 |.ok (.value a) w'=>Φ a w'
 |.ok .skip w'=>Φ undef w'
 |.ok (.enter f args) w'=>Calls P f args w' (λc b=>∃a,c=.returned a/\Φ a b)
 |_=>False
def jb.wp{P:Program}{o:Oper}{a:Act}{w:World}{Φ:Value->World->Prop}{K:Act->World->Prop}{Q:Exit->Act->World->Prop}
  (h:jb P Φ ((execOp a.eval o).run P w)) (H:∀v w',Φ v w'->K (a.put o.dst v) w'):o.wp P a w K Q:=by
 unfold Oper.wp;generalize (execOp a.eval o).run P w=r at h;cases r with
 |halt x w'=>exact h.elim
 |ok n w'=>
  cases n<;>simp only[jb]at h<;>simp only[Oper.upon]
  case value v=>exact H _ _ h
  case skip=>exact H _ _ h
  case enter f args=>
   exact hV h λe X ⟨v,S,O⟩=>by subst S;exact H _ _ O
def Yields(G:bI)(o:Oper)(ev:Operand->U)(σ:ah)(c7 R:cR)(bN:U):Prop:=
 ∀(b:ah) (cx:dz) (I:a8) (β:Nat->Value) (w:World) (c:Operand->Value),(∀a∈R,b.get a=σ.get a)->bE G cx I β b w->(∀a∈c7,β a=.nilFunc)->
  (∀d∈o.op.operands,aD I β (ev d) (c d))->
  jb G.P (λe w'=>∃aei β',aD aei β' bN e/\bE G cx aei β' b w'/\b1 I aei/\(∀a,a∉c7->β' a=β a)) ((execOp c o).run G.P w)
def fO(G:bI)(o:Oper)(ev:Operand->U)(σ:ah)(M news:cR)(Φ:U->ah->Prop):Prop:=
 ∀(cx:dz) (I:a8) (β:Nat->Value) (w:World) (c:Operand->Value),bE G cx I β σ w->(∀e∈o.op.operands,aD I β (ev e) (c e))->
  jb G.P (λf w'=>∃d b aei β',Φ d b/\aD aei β' d f/\bE G cx aei β' b w'/\b1 I aei/\(∀a,a∉news->β' a=β a)/\(∀a,a∉M->b.get a=σ.get a)) ((execOp c o).run G.P w)
def av.clean(p:Nat->Bool):av->Bool
 |[]=>true
 |(_,v)::r=>!v.refs p&&av.clean p r
def ah.clean(p:Nat->Bool):ah->Bool
 |[]=>true
 |(d,v)::r=>!p d&&!kR p v&&ah.clean p r
def aFB{p:Nat->Bool}:∀{env:av},env.clean p=true->∀t,(env.get t).refs p=false
 |[],_,t=>by simp[av.get,U.refs]
 |(k,v)::r,h,t=>by
   simp only[av.clean,b9,gD]at h;rw[aFr];split
   .exact h.1
   .exact aFB h.2 t
theorem aFi{p:Nat->Bool}:∀{σ:ah},σ.clean p=true->∀d o,σ.get d=some o->p d=false/\kR p o=false
 |[],_,d,o,e=>by simp[ah.get]at e
 |(k,v)::r,h,d,o,e=>by
   simp only[ah.clean,b9,gD]at h;rw[aFc]at e;split at e
   .grind
   .exact aFi h.2 d o e
def aFN(e:av):e.clean ([]:cR).contains=true:=by
 induction e with
 |nil=>rfl
 |cons x r a=>simp only[av.clean,a,Cj (p:=([]:cR).contains) (λ_=>rfl) x.2,js,up]
def aFL(e:ah):e.clean ([]:cR).contains=true:=by
 induction e with
 |nil=>rfl
 |cons x r a=>
  have:kR ([]:cR).contains x.2=false:=Fw (λ_=>rfl) _;simp only[ah.clean,a,this];rfl
def HZ:b4->Bool
 |.hdr _ _=>false
 |_=>true
def sg(G:bI)(σ:ah)(c7:cR)(σ2:ah)(env:av):Prop:=
 (∀a,a∉c7->σ2.get a=σ.get a)/\(∀a∈c7,a∉G.ids)/\env.clean c7.contains=true/\σ.clean c7.contains=true/\∀a∈c7,∀o,σ2.get a=some o->HZ o=true
def aFK(G:bI)(σ:ah)(env:av):sg G σ [] σ env:=⟨λ_ _=>rfl,λ_ a=>by simp at a,aFN env,aFL σ,λ_ a=>by simp at a⟩
def gV(β:Nat->Value)(c7:cR):Nat->Value:=λa=>if a∈c7 then .nilFunc else β a
def bE.pR{I:a8}{β:Nat->Value}{σ2:ah}{c7:cR}{env:av}(h:bE G cx I β σ w)(v:sg G σ c7 σ2 env):
  bE G cx I (gV β c7) σ2 w:=by
 obtain⟨Q,ae,ak,ag,aj⟩:=v
 have O:∀d,c7.contains d=false->gV β c7 d=β d:=λd hd=>by
  have:d∉c7:=by simpa using hd
  simp[gV,this]
 have X:∀d,d∈c7->gV β c7 d=.nilFunc:=λd hd=>by simp[gV,hd]
 refine{h with bY:=λd o e=>?_,cQ:=λd cA e Y ab b=>?_,keep:=λd hd=>?_}
 .by_cases H:d∈c7
  .cases o with
   |hdr am n=>cases aj d H _ e
   |_=>simp only[bl];exact .inl (X d H)
  .rw[Q d H]at e;obtain⟨aa,Z⟩:=aFi ag d o e;exact(h.bY d o e).beta O aa Z
 .by_cases H:d∈c7
  .simp[X d H,FA]
  .by_cases S:cA∈c7
   .simp[X cA S,FA]
   .rw[Q d H]at e;rw[Q cA S]at Y;rw[O d (by simpa using H),O cA (by simpa using S)];exact h.cQ d cA e Y ab b
 .have:d∉c7:=λH=>ae d H hd;rw[O d (by simpa using this)];exact h.keep d hd
def g7(d:jB)(o:Oper)(env:av):Prop:=
 match o.guard with
 |none=>True
 |some (c,want)=>∃b a,d[c]?=some b/\b.dst=some a/\env.get a=.bool want
def iW(d:jB)(o:Oper)(env:av):Prop:=
 match o.guard with
 |none=>False
 |some (c,want)=>∃b a,d[c]?=some b/\b.dst=some a/\(env.get a=.bool (!want)\/env.get a=.undef)
structure jA where
 dY:Bool
 T:mh
 es:cR
def o8(s:jA)(e:Nat)(M:cR):List (Nat×cR)->Bool
 |[]=>true
 |(i,a)::r=>((s.T.getD e []).contains i||a.all (λb=>!M.contains b))&&o8 s e M r
def hQ(G:bI)(a:jB)(s:jA):List (Nat×cR)->cR->av->ah->(av->ah->Prop)->Prop
 |_,[],env,σ,K=>K env σ
 |log,i::l,env,σ,K=>∃o,a[i]?=some o/\
   ((iW a o env/\(s.dY=true->i∉s.es)/\hQ G a s ((i,[])::log) l (env.put o.dst .undef) σ K)\/
    (g7 a o env/\(s.dY=true->i∉s.es)/\∃f d c e,sg G σ f e env/\(∀b∈d,(e.get b).isSome)/\(∀b∈f,b∈d)/\Yields G o env.ev e f d c/\
     hQ G a s ((i,d)::log) l (env.put o.dst c) e K)\/
    (g7 a o env/\(s.dY=true->i∈s.es)/\∃h g k,fO G o env.ev σ h g k/\(s.dY=true->o8 s i h log=true)/\env.clean g.contains=true/\(∀b∈g,b∉G.ids/\σ.get b=none)/\
     ∀c j,k c j->hQ G a s log l (env.put o.dst c) j K)\/
    (iW a o env/\(s.dY=true->i∈s.es)/\hQ G a s log l (env.put o.dst .undef) σ K))
def iC(I:a8)(β:Nat->Value)(env:av)(a:Act):Prop:=∀b,aD I β (env.get b) (a.tmps.getD b undef)
def iC.ev{I:a8}{β:Nat->Value}{env:av}{a:Act}(h:iC I β env a)(x:Operand):aD I β (env.ev x) (a.eval x):=by
 cases x with
 |tmp t=>exact h t
 |const v=>exact Gi I β v
 |global g=>simp[av.ev,aD,a1,Act.eval]
 |func f=>simp[av.ev,Act.eval,aD,bD]
theorem yI(a:Act)(d:Nat)(v:Value)(t:Nat)(c:d<a.tmps.size):(a.put (some d) v).tmps.getD t undef=if d=t then v else a.tmps.getD t undef:=by
 simp only[Act.put];by_cases b:d=t
 all_goals simp_all
end
section
def lD(G:bI)(cx:dz)(env:av)(σ:ah)(a:Act)(w:World):Prop:=
 ∃I β,bE G cx I β σ w/\iC I β env a/\a.tmps.size=G.N/\a.defers=[]
theorem Lr{G:bI}{ops:jB}{o:Oper}{env:av}{a:Act}(t:a.tmps.size=G.N)(n:∀(j:Nat) (e:Oper) (d:Nat),ops[j]?=some e->e.dst=some d->d<G.N)
  (l:∀(j:Nat) (k:Bool),o.guard=some (j,k)->∀(e:Oper) (c:Nat),ops[j]?=some e->e.dst=some c->∀b,(env.get c=.bool b->a.tmps.getD c undef=.bool b)/\(env.get c=.undef->a.tmps.getD c undef=undef)) :
  (g7 ops o env->Region.wanted o (yielded ops a.tmps)=true)/\(iW ops o env->Region.wanted o (yielded ops a.tmps)=false):=by
 unfold g7 iW Region.wanted;cases m:o.guard with
 |none=>exact⟨λ_=>rfl,λq=>q.elim⟩
 |some p=>
  obtain⟨j,k⟩:=p
  have r:∀(e:Oper) (c:Nat),ops[j]?=some e->e.dst=some c->∀i,a.tmps.getD c undef=i->yielded ops a.tmps j=(match i with|.bool b=>some b|_=>none):=by
   intro e c h f i s;have u:=n j e c h f;have:a.tmps[c]?=some i:=by simp_all
   unfold yielded
   grind
  constructor
  .grind
  .rintro⟨e,c,h,f,g⟩;rcases g with g|g
   .grind
   .have:=(l j k m e c h f k).2 g;simp only[r e c h f _ this];rfl
def iC.guard{I:a8}{β:Nat->Value}{env:av}{a:Act}(h:iC I β env a)(d:Nat)(b:Bool):
  (env.get d=.bool b->a.tmps.getD d undef=.bool b)/\(env.get d=.undef->a.tmps.getD d undef=undef):=by
 have:=h d;constructor<;>intro e<;>rw[e]at this<;>simpa [aD,a1]using this
def iC.put{I:a8}{β:Nat->Value}{env:av}{a:Act}{bN:U}{v:Value}(h:iC I β env a)(dst:iG)(hd:∀d,dst=some d->d<a.tmps.size)(H:aD I β bN v):
  iC I β (env.put dst bN) (a.put dst v):=by
 cases dst with
 |none=>exact h
 |some d=>
  intro t;rw[yI a d v t (hd d rfl)];simp only[av.put,aFr];split
  .exact H
  .exact h t
def sX(a:Act)(dst:iG)(v:Value):(a.put dst v).tmps.size=a.tmps.size:=by
 cases dst<;>simp[Act.put]
def sO(a:Act)(dst:iG)(v:Value):(a.put dst v).defers=a.defers:=by
 cases dst<;>simp[Act.put]
def iC.mono{I H:a8}{β β':Nat->Value}{env:av}{a:Act}(h:iC I β env a)(hi:b1 I H)(O:fQ β β'):iC H β' env a:=
 λt=>yL hi O _ _ (h t)
def iC.beta{I:a8}{β β':Nat->Value}{env:av}{a:Act}{p:Nat->Bool}(h:iC I β env a)(H:∀d,p d=false->β' d=β d)(O:env.clean p=true):iC I β' env a:=
 λt=>sW H _ _ (aFB O t) (h t)
theorem Cw(G:bI)(ops:jB)(s:jA)(Q:Exit->Act->World->Prop)(m:∀(j:Nat) (D:Oper) (d:Nat),ops[j]?=some D->D.dst=some d->d<G.N)(K:av->ah->Prop)(cx:dz)
  (t:∀env σ a w,K env σ->lD G cx env σ a w->Q .normal a w) :
  ∀(l:cR) (log:List (Nat×cR)) (env:av) (σ:ah) (a:Act) (w:World),hQ G ops s log l env σ K->lD G cx env σ a w->wpOps G.P ops Q l a w
 |[],log,env,σ,a,w,g,q=>t _ _ _ _ g q
 |i::l,log,env,σ,a,w,g,q=>by
  obtain⟨o,J,g⟩:=g;have A:∀d,o.dst=some d->d<a.tmps.size:=λd c=>by obtain⟨_,_,_,_,O,_⟩:=q;rw[O];exact m i o d J c
  simp only[wpOps,J];obtain⟨I,β,x,h,r,B⟩:=q;have C:=Lr (o:=o) (env:=env) r m (λj an _ D T _ _ Z=>h.guard T Z)
  have skip:∀log,iW ops o env->hQ G ops s log l (env.put o.dst .undef) σ K->
    if Region.wanted o (yielded ops a.tmps)=true then o.wp G.P a w (wpOps G.P ops Q l) Q\/o.asks G.P a w/\LetsOut Q else wpOps G.P ops Q l (a.put o.dst undef) w:=by
   intro log X g;rw[C.2 X];simp only[pL,h0];exact Cw G ops s Q m K cx t l _ _ _ _ _ g ⟨I,β,x,h.put _ A (by simp[aD,a1]),by rw[sX];exact r,by rw[sO];exact B⟩
  rcases g with⟨n,_,k⟩|⟨n,_,b,ag,bN,M,v,aj,ak,U,k⟩|⟨n,_,ae,ab,Φ,R,_,S,am,k⟩|⟨n,_,k⟩
  .grind
  .rw[C.1 n];simp only[fE];refine .inl (jb.wp (Φ:=λE F=>∃f e,aD f e bN E/\bE G cx f e M F/\b1 I f/\(∀d,d∉b->e d=gV β b d)) ?_ ?_)
   .have V:=x.pR v
    have u:∀d,b.contains d=false->gV β b d=β d:=λd c=>by
     have:d∉b:=by simpa using c
     simp[gV,this]
    exact U M cx I (gV β b) w a.eval (λ_ _=>rfl) V (λd c=>by simp[gV,c]) (λH _=>(h.beta u v.2.2.1).ev H)
   .rintro E F ⟨f,e,z,y,bt,L⟩
    have u:∀d,b.contains d=false->gV β b d=β d:=λd c=>by
     have:d∉b:=by simpa using c
     simp[gV,this]
    have P:fQ (gV β b) e:=λd=>by
     by_cases aa:d∈b
     .left;simp[gV,aa]
     .grind
    exact Cw G ops s Q m K cx t l _ _ _ _ _ k ⟨f,e,y,((h.beta u v.2.2.1).mono bt P).put _ A z,by rw[sX];exact r,by rw[sO];exact B⟩
  .rw[C.1 n];simp only[fE];refine .inl (jb.wp (R cx I β w a.eval x (λH _=>h.ev H)) ?_);rintro E F ⟨bN,N,f,e,Y,z,y,bt,L,_⟩;have W:iC f e env a:=(h.beta (p:=ab.contains) (λd c=>L d (by simpa using c)) S).mono bt (fQ.refl _);exact Cw G ops s Q m K cx t l _ _ _ _ _ (k bN N Y) ⟨f,e,y,W.put _ A z,by rw[sX];exact r,by rw[sO];exact B⟩
  .grind
def v6(N:Nat)(ops:jB):Bool:=ops.toList.all λo=>match o.dst with|some d=>Nat.blt d N|none=>true
theorem KZ{N:Nat}{ops:jB}(h:v6 N ops=true):∀(j:Nat) (a:Oper) (d:Nat),ops[j]?=some a->a.dst=some d->d<N:=by
 intro j a d b e;have c:a∈ops.toList:=by simpa using Array.mem_of_getElem? b
 have:=gE.1 h a c
 simp_all
def looks(ops:jB)(o:Oper)(t:Nat):Bool:=(o.looksAt ops).contains t
def Dg(s:jA)(i j:Nat)(b a:Oper)(ops:jB):Bool:=
 match b.dst with
 |none=>true
 |some t=>
  (i==j&&(s.es.contains i||!looks ops a t)) ||
  (!(i==j)&&(!(looks ops a t)||(s.T.getD j []).contains i||(s.es.contains i&&(s.T.getD i []).contains j)) &&
   (!(a.dst==some t)||(s.es.contains i&&s.es.contains j&&((s.T.getD j []).contains i||(s.T.getD i []).contains j))))
def ru(s:jA):cR->Bool
 |[]=>true
 |i::l=>l.all (λa=>!(s.T.getD i []).contains a&&!(i==a)&&(!s.es.contains i||(s.T.getD a []).contains i))&&ru s l
def HQ(ops:jB)(T:mh):Bool:=
 (List.range ops.size).all λb=>match ops[b]? with
  |none=>false
  |some c=>c.after.toList.all (λa=>!Region.binds .any a||Nat.blt a.on b) &&
    (T.getD b []).all λd=>c.after.toList.any λa=>Region.binds .any a&&(a.on==d||(T.getD a.on []).contains d)
def Dh(N:Nat)(ops:jB)(s:jA)(l:cR):Bool:=
 v6 N ops&&HQ ops s.T&&ru s l&&(List.range ops.size).all (λa=>l.contains a)&&l.all (λa=>Nat.blt a ops.size)&&(s.T.length==ops.size) &&
 (List.range ops.size).all λa=>(List.range ops.size).all λb=>match ops[a]?,ops[b]? with
  |some d,some c=>Dg s a b d c ops
  |_,_=>true
section any
variable {G:bI}{ops:jB}{s:jA}
structure Stat(G:bI)(ops:Array Oper)(s:jA):Prop where
 dst:∀(j:Nat) (di:Oper) (d:Nat),ops[j]?=some di->di.dst=some d->d<G.N
 down:∀(j:Nat) (di:Oper),ops[j]?=some di->∀e∈di.after,Region.binds .any e=true->e.on<j
 tab:∀(j:Nat) (di:Oper),ops[j]?=some di->∀i∈s.T.getD j [],∃e∈di.after,Region.binds .any e=true/\(e.on=i\/i∈s.T.getD e.on [])
 size:s.T.length=ops.size
 read:∀(i j:Nat) (ht di:Oper) (t:Nat),ops[i]?=some ht->ops[j]?=some di->ht.dst=some t->i≠j->looks ops di t=true->i∈s.T.getD j []\/(i∈s.es/\j∈s.T.getD i [])
 self:∀(j:Nat) (di:Oper) (t:Nat),ops[j]?=some di->di.dst=some t->j∉s.es->looks ops di t=false
 one:∀(i j:Nat) (ht di:Oper) (t:Nat),ops[i]?=some ht->ops[j]?=some di->ht.dst=some t->di.dst=some t->i≠j->i∈s.es/\j∈s.es
theorem aGg{l:cR}(h:Dh G.N ops s l=true):Stat G ops s/\ru s l=true/\(∀i,i<ops.size↔i∈l):=by
 simp only[Dh,b9,gE,pQ,beq_iff_eq]at h;obtain⟨⟨⟨⟨⟨⟨x,g⟩,p⟩,r⟩,t⟩,q⟩,k⟩:=h;refine⟨{dst:=KZ x,down:=?_,tab:=?_,size:=q,read:=?_,self:=?_,one:=?_},p,λi=>⟨λc=>by simpa using r i c,λc=>(Iff.of_eq Nat.blt_eq).1 (t i c)⟩⟩
 .intro b f a w y e;have m:b<ops.size:=(lG.1 a).1;simp only[HQ,gE,pQ]at g;have:=g b m;simp only[a,b9,gE]at this;have:=this.1 w (by simpa using y)
  simp_all
 .intro b f a i c;have m:b<ops.size:=(lG.1 a).1;simp only[HQ,gE,pQ]at g
  grind
 .intro i b z f n c a d j o;have:=k i (lG.1 c).1 b (lG.1 a).1;have e:(i==b)=false:=by simpa using j
  simp only[c,a,Dg,d,e,o,dk,js,hq,tZ,Bool.false_or,kZ,b9,iT]at this
  grind
 .intro b f n a d v;have:=k b (lG.1 a).1 b (lG.1 a).1;simp only[a,Dg,d,BEq.rfl,hq,dk,tZ,Bool.or_false,kZ,ua,v,iT,gD]at this;exact this
 .intro i b z f n c a d u j;have:=k i (lG.1 c).1 b (lG.1 a).1;have e:(i==b)=false:=by simpa using j
  simp only[c,a,Dg,d,u,e,js,hq,tZ,Bool.false_or,kZ,b9,iT,BEq.rfl,dk,pL]at this
  grind
def DB(G:bI)(ops:jB)(s:jA)(env:av)(σ:ah)(β:Nat->Value)(log:List (Nat×cR))(i:Nat)(c7:cR):Prop:=
 ∃o bN,ops[i]?=some o/\i∉s.es/\(∀c,o.dst=some c->env.get c=bN)/\
  ((iW ops o env/\bN=.undef/\c7=[])\/
   (g7 ops o env/\∃b,Yields G o env.ev σ c7 b bN/\(i,b)∈log/\(∀a∈b,(σ.get a).isSome)/\(∀a∈c7,a∈b/\β a=.nilFunc/\a∉G.ids)))
def zW(I:a8)(β:Nat->Value)(ops:jB)(eE:cR)(env:av)(a:Act):Prop:=
 ∀b,(∀c∈eE,∀o,ops[c]?=some o->o.dst≠some b)->aD I β (env.get b) (a.tmps.getD b undef)
def u1{ei:mC}{j:Nat}:j∈Region.ready .any ops ei↔
  ei.getD j true=false/\∃o,ops[j]?=some o/\∀e∈o.after,Region.binds .any e=true->ei.getD e.on false=true:=mem_ready
theorem Nn{ei:mC}{i:Nat}(hi:i<ei.size)(b c:Bool):ei.getD i b=ei.getD i c:=by grind
theorem Fg(st:Stat G ops s){ei:mC}(g:ei.size=ops.size)
  (f:∀j,ei.getD j false=true->∀i∈s.T.getD j [],ei.getD i false=true) {j:Nat} (c:j∈Region.ready .any ops ei) :
  ∀i∈s.T.getD j [],ei.getD i false=true:=by
 obtain⟨_,o,b,h⟩:=u1.1 c;intro i d;obtain⟨k,l,e,a⟩:=st.tab j o b i d;rcases a with a|a
 .grind
 .grind
theorem Wd(st:Stat G ops s){ei:mC}(l:ei.size=ops.size):∀(n j:Nat),j<=n->j<ops.size->ei.getD j true=false->Region.ready .any ops ei≠[]:=by
 intro n;induction n with
 |zero=>
  intro j h a d
  have:j∈Region.ready .any ops ei:=u1.2 ⟨d,ops[j],qj a,λb e c=>by
   have:=st.down j _ (qj a) b e c;omega⟩
  exact List.ne_nil_of_mem this
 |succ n k=>
  intro j h a d;by_cases Aj:∃f,f<j/\ei.getD f true=false
  .grind
  .have:j∈Region.ready .any ops ei:=u1.2 ⟨d,ops[j],qj a,λb e c=>by
    have i:=st.down j _ (qj a) b e c;have:¬ei.getD b.on true=false:=λg=>Aj ⟨b.on,i,g⟩;rw[Nn (by omega) false true];simpa using this⟩
   grind
variable {bN:U}
def aF8{env:av}{dst:iG}{x:Operand}(h:∀t,dst=some t->x≠.tmp t):(env.put dst bN).ev x=env.ev x:=by
 cases dst with
 |none=>rfl
 |some d=>
  cases x with
  |tmp t=>simp only[av.put,av.ev,aFr];rw[bw (λa=>h d rfl (by rw[a]))]
  |_=>rfl
def aFM{env:av}{dst:iG}{t:Nat}(h:dst≠some t):(env.put dst bN).get t=env.get t:=by
 cases dst with
 |none=>rfl
 |some d=>simp only[av.put,aFr];rw[bw (λa=>h (by rw[a]))]
variable {o:Oper}
def Gj{t:Nat}(h:(Operand.tmp t)∈o.op.operands):looks ops o t=true:=by
 simp only[looks,ua,Oper.looksAt];exact ud _ (iB.2 ⟨.tmp t,by simpa using h,rfl⟩)
def KC{a:Oper}{j:Nat}{e:Bool}{t:Nat}(d:o.guard=some (j,e))(c:ops[j]?=some a)(b:a.dst=some t):looks ops o t=true:=by
 simp[looks,Oper.looksAt,d,c,b]
def Yields.ev{o:Oper}{ev O:Operand->U}{σ:ah}{c7 R:cR}{bN:U}(h:∀x∈o.op.operands,O x=ev x)(X:Yields G o ev σ c7 R bN):Yields G o O σ c7 R bN:=
 λQ cx I β w aa ab S Y Z=>X Q cx I β w aa ab S Y (λx H=>by rw[<-h x H];exact Z x H)
def Yields.PT{ev:Operand->U}{σ σ2:ah}{c7 R:cR}(h:∀d∈R,σ2.get d=σ.get d)(Q:Yields G o ev σ c7 R bN):Yields G o ev σ2 c7 R bN:=
 λH cx I β w Y Z O S X=>Q H cx I β w Y (λd hd=>(Z d hd).trans (h d hd)) O S X
def g7.put{o:Oper}{env:av}{dst:iG}{bN:U}(h:∀t,dst=some t->looks ops o t=false):(g7 ops o env->g7 ops o (env.put dst bN))/\(iW ops o env->iW ops o (env.put dst bN)):=by
 unfold g7 iW;cases X:o.guard with
 |none=>exact⟨id,id⟩
 |some Y=>
  obtain⟨j,want⟩:=Y;constructor<;>(rintro⟨di,O,Q,H,S⟩;refine⟨di,O,Q,H,?_⟩;rw[aFM (λe=>by have:=h O e;rw[KC X Q H]at this;cases this)];exact S)
theorem DB.put{env:av}{σ σ2:ah}{β dD:Nat->Value}{log Z:List (Nat×cR)}{i:Nat}{c7:cR}{dst:iG}{bN:U}(h:DB G ops s env σ β log i c7)
  (hd:∀o,ops[i]?=some o->∀t,dst=some t->looks ops o t=false/\o.dst≠some t)
  (am:∀x∈log,x∈Z) (ae:∀R,(i,R)∈log->∀d∈R,(σ.get d).isSome->σ2.get d=σ.get d) (aw:∀d∈c7,(σ.get d).isSome->β d=.nilFunc->dD d=.nilFunc) :
  DB G ops s (env.put dst bN) σ2 dD Z i c7:=by
 obtain⟨o,aq,Q,aj,ak,h⟩:=h;refine⟨o,aq,Q,aj,λt X=>?_,?_⟩
 .rw[aFM (λe=>(hd o Q t e).2 X)];exact ak t X
 .have O:∀t,dst=some t->looks ops o t=false:=λt e=>(hd o Q t e).1;rcases h with⟨S,ab⟩|⟨S,R,ag,Y,an,ar⟩
  .exact .inl ⟨(g7.put O).2 S,ab⟩
  .refine .inr ⟨(g7.put O).1 S,R,?_,am _ Y,λd H=>?_,λd H=>?_⟩
   .refine(ag.ev λx aa=>?_).PT (λd H=>ae R Y d H (an d H));exact aF8 λt e ao=>by have:=O t e;rw[Gj (ao▸aa)]at this;cases this
   all_goals grind
def zW.ev{I:a8}{β:Nat->Value}{eE:cR}{env:av}{a:Act}(h:zW I β ops eE env a){o:Oper}
  (H:∀i∈eE,∀ht,ops[i]?=some ht->∀t,ht.dst=some t->looks ops o t=false):∀x∈o.op.operands,aD I β (env.ev x) (a.eval x):=by
 intro x O;cases x with
 |tmp t=>
  refine h t λi hi ht Q hd=>?_;have:=H i hi ht Q t hd;rw[Gj O]at this;cases this
 |const v=>exact Gi I β v
 |global g=>simp[av.ev,aD,a1,Act.eval]
 |func f=>simp[av.ev,Act.eval,aD,bD]
def zW.want{I:a8}{β:Nat->Value}{eE:cR}{env:av}{a:Act}(st:Stat G ops s)(S:a.tmps.size=G.N)(h:zW I β ops eE env a){o:Oper}
  (O:∀i∈eE,∀ht,ops[i]?=some ht->∀t,ht.dst=some t->looks ops o t=false) :
  (g7 ops o env->Region.wanted o (yielded ops a.tmps)=true)/\(iW ops o env->Region.wanted o (yielded ops a.tmps)=false):=by
 refine Lr S st.dst λj want X di H Z Q b=>?_
 have:=h H λi hi ht Y hd=>by
  have:=O i hi ht Y H hd;rw[KC X Z Q]at this;cases this
 constructor<;>intro e<;>rw[e]at this<;>simpa [aD,a1]using this
theorem K0{e:Nat}{M:cR}:∀{log:List (Nat×cR)},o8 s e M log=true->∀i R,(i,R)∈log->i∈s.T.getD e []\/∀d∈R,d∉M
 |[],_,_,_,a=>by simp at a
 |(k,S)::r,h,i,R,a=>by
  simp only[o8,b9,kZ,ua,gE]at h;rcases c5.1 a with e|a
  .grind
  .exact K0 h.2 i R a
structure Inv(G:bI)(ops:Array Oper)(s:jA)(cx:dz)(m:Nat->List Nat)(l eE:List Nat)(ei:Array Bool)(log:List (Nat×List Nat))(env:av)(σ:ah)(a:Act)(w:World)(I:a8)(β:Nat->Value):Prop where
 lg:ei.size=ops.size
 ord:ru s l=true
 ny:∀i,i<ops.size->(ei.getD i true=false↔i∈eE\/i∈l)
 pT:∀i∈eE,i∉l
 nd:eE.Nodup
 pw:∀i∈eE,∀j∈l,j∉s.T.getD i []
 ps:∀i∈eE,i<ops.size
 ls:∀i∈l,i<ops.size
 cl:∀j,ei.getD j false=true->∀i∈s.T.getD j [],ei.getD i false=true
 ni:∀i∈eE,DB G ops s env σ β log i (m i)
 md:∀i∈eE,∀j∈eE,i≠j->∀d∈m i,d∉m j
 rw:bE G cx I β σ w
 rp:zW I β ops eE env a
 sz:a.tmps.size=G.N
 df:a.defers=[]
theorem Gk(ei:mC)(i j:Nat)(b:Bool)(hi:i<ei.size):(ei.setIfInBounds i true).getD j b=if i=j then true else ei.getD j b:=by
 by_cases a:i=j
 all_goals simp_all
section inv
variable {cx:dz}{m:Nat->cR}{l eE:cR}{ei:mC}{log:List (Nat×cR)}{env:av}{σ:ah}{a:Act}{w:World}{I:a8}{β:Nat->Value}
def Inv.Gl(H:Inv G ops s cx m l eE ei log env σ a w I β){i:Nat}(h:i∈eE\/i∈l):ei.getD i false=false:=by
 have hi:i<ops.size:=by rcases h with h|h<;>first|exact H.ps i h|exact H.ls i h
 rw[Nn (by rw[H.lg];exact hi) false true];exact(H.ny i hi).2 h
def Inv.NS(st:Stat G ops s)(H:Inv G ops s cx m l eE ei log env σ a w I β){j:Nat}(Q:j∈Region.ready .any ops ei):
  ∀k,(ei.setIfInBounds j true).getD k false=true->∀i∈s.T.getD k [],(ei.setIfInBounds j true).getD i false=true:=by
 obtain⟨_,o,S,_⟩:=u1.1 Q;have X:j<ei.size:=by rw[H.lg];exact(lG.1 S).1
 intro k O i hi;rw[Gk _ _ _ _ X]at O ⊢;split
 .rfl
 .split at O
  .rename_i h;subst h;exact Fg st H.lg H.cl Q i hi
  .exact H.cl k O i hi
theorem Inv.FQ(st:Stat G ops s)(H:Inv G ops s cx m l eE ei log env σ a w I β){j:Nat}{o:Oper}(Z:j∈Region.ready .any ops ei)(S:ops[j]?=some o)(ae:j∈eE->j∉s.es):
  ∀i∈eE,∀ht,ops[i]?=some ht->∀t,ht.dst=some t->looks ops o t=false:=by
 intro i hi ht Q t X;rcases Bool.eq_false_or_eq_true (looks ops o t)with O|O
 .exfalso;by_cases Y:i=j
  .subst Y;have ab:some ht=some o:=Q.symm.trans S;cases ab;have:=st.self i o t Q X (ae hi)
   grind
  .rcases st.read i j ht o t Q S X Y O with h|⟨h,_⟩
   .have:=Fg st H.lg H.cl Z i h;rw[H.Gl (.inl hi)]at this;cases this
   .obtain⟨_,_,_,aa,_⟩:=H.ni i hi;exact aa h
 .exact O
theorem Inv.Mp(st:Stat G ops s)(H:Inv G ops s cx m l eE ei log env σ a w I β){Q:Exit->Act->World->Prop}{K:Act->World->Prop}{j:Nat}(ag:j∈Region.ready .any ops ei)(aa:j∈eE)
    (k:∀ak w' O β',Inv G ops s cx m l (eE.erase j) (ei.setIfInBounds j true) log env σ ak w' O β'->K ak w'):wpOp G.P ops Q j K a w:=by
  obtain⟨o,bN,X,aI,aJ,h⟩:=H.ni j aa;have aL:j<ei.size:=by rw[H.lg];exact H.ps j aa
  have am:=H.FQ st ag X (λ_=>aI);have ae:=H.rp.want st H.sz am;have aK:∀d,o.dst=some d->d<a.tmps.size:=λd hd=>by rw[H.sz];exact st.dst j o d X hd
  have next:∀v w' O β',aD O β' bN v->bE G cx O β' σ w'->b1 I O->(∀d,d∉m j->β' d=β d)->(∀d∈m j,β d=.nilFunc\/β' d=β d)->Inv G ops s cx m l (eE.erase j) (ei.setIfInBounds j true) log env σ (a.put o.dst v) w' O β':=by
    intro v w' O β' aG aC bt ao aA
    have aw:fQ β β':=λd=>by
      by_cases hd:d∈m j
      · exact aA d hd
      · grind
    refine{lg:=by simp[H.lg],ord:=H.ord,ny:=λi hi=>?_,pT:=λi hi=>H.pT i (wB hi),nd:=H.nd.erase j,
           pw:=λi hi=>H.pw i (wB hi),ps:=λi hi=>H.ps i (wB hi),ls:=H.ls,cl:=H.NS st ag,ni:=λi hi=>?_,
           md:=λi hi k aT=>H.md i (wB hi) k (wB aT),rw:=aC,rp:=λt aU=>?_,sz:=by rw[sX];exact H.sz,df:=by rw[sO];exact H.df}
    · rw[Gk _ _ _ _ aL]
      by_cases Z:j=i
      · subst Z
        simp only[fE,Bool.true_eq_false,false_iff,not_or];exact⟨λh=>(List.Nodup.mem_erase_iff H.nd).1 h|>.1 rfl,H.pT j aa⟩
      · rw[bw Z,H.ny i hi,List.Nodup.mem_erase_iff H.nd]
        grind
    · have an:=wB hi
      have Z:i≠j:=λe=>((List.Nodup.mem_erase_iff H.nd).1 hi).1 e;obtain⟨ht,aR,aq,az,ax,S⟩:=H.ni i an;refine⟨ht,aR,aq,az,ax,?_⟩;rcases S with S|⟨S,R,ay,aE,aB,aj⟩
      · exact .inl S
      · refine .inr ⟨S,R,ay,aE,aB,λd hd=>⟨(aj d hd).1,?_,(aj d hd).2.2⟩⟩
        rw[ao d (H.md i an j aa Z d hd)]
        grind
    · by_cases Y:o.dst=some t
      · rw[Y,yI a t v t (by rw[H.sz];exact st.dst j o t X Y),bx rfl,aJ t Y]
        exact aG
      · have:(a.put o.dst v).tmps.getD t undef=a.tmps.getD t undef:=by
          cases hd:o.dst with
          |none=>rfl
          |some d=>rw[yI a d v t (aK d hd),bw (λe=>Y (by rw[hd,e]))]
        rw[this];refine yL bt aw _ _ (H.rp t λi hi ht aV=>?_)
        grind
  unfold wpOp;simp only[X];rcases h with⟨ab,ar⟩|⟨ab,R,aH,aW,aX,aN⟩
  · rw[ae.2 ab]
    simp only[pL,h0];exact k _ _ _ _ (next undef w I β (by rw[ar.1];simp[aD,a1]) H.rw (b1.refl I) (λ_ _=>rfl) (λ_ _=>.inr rfl))
  · rw[ae.1 ab]
    simp only[fE];refine .inl (jb.wp (aH σ cx I β w a.eval (λ_ _=>rfl) H.rw (λd hd=>(aN d hd).2.1) (H.rp.ev am)) ?_)
    grind
theorem Inv.pR(st:Stat G ops s){i:Nat}(O:Inv G ops s cx m (i::l) eE ei log env σ a w I β){o:Oper}(Z:ops[i]?=some o)(aj:i∉s.es){c7 R:cR}{bN:U}{σ2:ah}
    (X:sg G σ c7 σ2 env) (aa:(iW ops o env/\bN=.undef/\c7=[])\/(g7 ops o env/\Yields G o env.ev σ2 c7 R bN/\(∀d∈R,(σ2.get d).isSome)/\(∀d∈c7,d∈R))) :
    Inv G ops s cx (λk=>if k=i then c7 else m k) l (i::eE) ei ((i,R)::log) (env.put o.dst bN) σ2 a w I (gV β c7):=by
  have am:i∉eE:=λh=>O.pT i h (by simp);have ax:=O.ord;simp only[ru,b9,gE,gD,List.contains_eq_mem,iz,beq_eq_false_iff_ne]at ax
  have aq:∀d,c7.contains d=false->gV β c7 d=β d:=λd hd=>by
    have:d∉c7:=by simpa using hd
    simp[gV,this]
  have az:∀d,(σ.get d).isSome->d∉c7:=λd hd aJ=>by
    obtain⟨x,ab⟩:=hZ.1 hd;have:=(aFi X.2.2.2.1 d x ab).1;simp[aJ]at this
  have ak:∀p∈eE,(if p=i then c7 else m p)=m p:=λp aa=>by
    have:p≠i:=λe=>by subst e;exact am aa
    rw[bw this]
  refine{lg:=O.lg,ord:=ax.2,ny:=λk H=>?_,pT:=λk H S=>?_,nd:=jX.2 ⟨am,O.nd⟩,pw:=λk H j ag=>?_,ps:=λk H=>?_,ls:=λk H=>O.ls k (by simp[H]),
         cl:=O.cl,ni:=λk H=>?_,md:=λk H j ag aC d hd=>?_,rw:=O.rw.pR X,rp:=λt Q=>?_,sz:=O.sz,df:=O.df}
  · rw[O.ny k H];simp only[c5]
    grind
  · rcases c5.1 H with rfl|H
    · grind
    · exact O.pT k H (by simp[S])
  · rcases c5.1 H with rfl|H
    · grind
    · exact O.pw k H j (by simp[ag])
  · rcases c5.1 H with rfl|H
    · grind
    · exact O.ps k H
  · rcases c5.1 H with rfl|H
    · have an:∀t,o.dst=some t->looks ops o t=false:=λt Q=>st.self k o t Z Q aj
      refine⟨o,bN,Z,aj,λt Q=>by simp[Q,av.put,aFr],?_⟩;simp only[fE];rcases aa with⟨ao,aB⟩|⟨ao,aE,aD,aG⟩
      · exact .inl ⟨(g7.put an).2 ao,aB⟩
      · refine .inr ⟨(g7.put an).1 ao,R,aE.ev (λx ab=>aF8 λt e aH=>?_),by simp,aD,λd hd=>⟨aG d hd,by simp[gV,hd],X.2.1 d hd⟩⟩
        have:=an t e;rw[Gj (aH▸ab)]at this;cases this
    · rw[ak k H]
      refine(O.ni k H).put (λok aw t Q=>?_) (λx ab=>by simp[ab]) (λaK aL d hd ae=>X.1 d (az d ae)) (λd hd ae aI=>by rw[aq d (by simpa using az d ae)];exact aI);have ay:i≠k:=λe=>am (e▸H);constructor
      · rcases Bool.eq_false_or_eq_true (looks ops ok t)with S|S
        · rcases st.read i k o ok t Z aw Q ay S with h|⟨h,_⟩
          · exact absurd h (O.pw k H i (by simp))
          · grind
        · exact S
      · exact λe=>aj (st.one i k o ok t Z aw Q e ay).1
  · have key:∀p∈eE,∀d∈m p,d∉c7:=λp aa d hd=>by
      obtain⟨_,_,_,_,_,q⟩:=O.ni p aa;rcases q with q|⟨_,_,_,_,aR,q⟩
      · grind
      · grind
    rcases c5.1 H with aT|aA
    · grind
    · rw[ak k aA]at hd
      rcases c5.1 ag with aN|ar
      · grind
      · rw[ak j ar]
        exact O.md k aA j ar aC d hd
  · have Y:o.dst≠some t:=Q i (by simp) o Z
    rw[aFM Y];exact sW aq _ _ (aFB X.2.2.1 t) (O.rp t λk H=>Q k (by simp[H]))
theorem Inv.wR(st:Stat G ops s){i:Nat}(H:Inv G ops s cx m (i::l) eE ei log env σ a w I β){o:Oper}(Z:ops[i]?=some o)(aL:i∈s.es)(ab:i∈Region.ready .any ops ei){M news:cR}{bN:U}{aa:ah}
    (aE:o8 s i M log=true) (az:env.clean news.contains=true) (aN:∀d∈news,d∉G.ids/\σ.get d=none) {v:Value} {w':World} {X:a8} {β':Nat->Value}
    (aA:aD X β' bN v) (ax:bE G cx X β' aa w') (bt:b1 I X) (am:∀d,d∉news->β' d=β d) (aK:∀d,d∉M->aa.get d=σ.get d) :
    Inv G ops s cx m l eE (ei.setIfInBounds i true) log (env.put o.dst bN) aa (a.put o.dst v) w' X β':=by
  have aB:i∉eE:=λh=>H.pT i h (by simp);have aH:i<ei.size:=by rw[H.lg];exact H.ls i (by simp)
  have ag:=H.ord;simp only[ru,b9,gE,gD,List.contains_eq_mem,iz,beq_eq_false_iff_ne]at ag;have aG:=Fg st H.lg H.cl ab
  have aJ:∀p∈eE,p∉s.T.getD i []:=λp an ar=>by
    have:=aG p ar;rw[H.Gl (.inl an)]at this;cases this
  have aj:∀d,o.dst=some d->d<a.tmps.size:=λd hd=>by rw[H.sz];exact st.dst i o d Z hd
  refine{lg:=by simp[H.lg],ord:=ag.2,ny:=λk O=>?_,pT:=λk O Q=>H.pT k O (by simp[Q]),nd:=H.nd,pw:=λk O j aw=>H.pw k O j (by simp[aw]),ps:=H.ps,ls:=λk O=>H.ls k (by simp[O]),
         cl:=H.NS st ab,ni:=λk O=>?_,md:=H.md,rw:=ax,rp:=λt S=>?_,sz:=by rw[sX];exact H.sz,df:=by rw[sO];exact H.df}
  · rw[Gk _ _ _ _ aH]
    by_cases aC:i=k
    · grind
    · rw[bw aC,H.ny k O]
      grind
  · have ak:i≠k:=λe=>aB (e▸O)
    have aI:k∉s.es:=by obtain⟨_,_,_,q,_⟩:=H.ni k O;exact q
    refine(H.ni k O).put (λok ae t S=>?_) (λx ao=>ao) (λR ay d hd aq=>?_) (λd hd aq aR=>?_)
    · constructor
      · rcases Bool.eq_false_or_eq_true (looks ops ok t)with Q|Q
        · rcases st.read i k o ok t Z ae S ak Q with h|⟨_,h⟩
          · exact absurd h (H.pw k O i (by simp))
          · grind
        · exact Q
      · exact λe=>aI (st.one i k o ok t Z ae S e ak).2
    · rcases K0 aE k R ay with h|h
      all_goals grind
    · grind
  · by_cases Y:o.dst=some t
    · rw[Y,yI a t v t (aj t Y),bx rfl]
      simp only[av.put,aFr,fE];exact aA
    · rw[aFM Y]
      have:(a.put o.dst v).tmps.getD t undef=a.tmps.getD t undef:=by
        cases hd:o.dst with
        |none=>rfl
        |some d=>rw[yI a d v t (aj d hd),bw (λe=>Y (by rw[hd,e]))]
      rw[this];exact yL bt (fQ.refl _) _ _ (sW (p:=news.contains) (λd hd=>am d (by simpa using hd)) _ _ (aFB az t) (H.rp t S))
end inv
theorem XV(st:Stat G ops s)(j:s.dY=true)(Q:Exit->Act->World->Prop)(K:av->ah->Prop)(cx:dz)
  (am:∀env σ a w,K env σ->lD G cx env σ a w->Q .normal a w) :
  ∀(fuel:Nat) (l eE:cR) (m:Nat->cR) (ei:mC) (log:List (Nat×cR)) (env:av) (σ:ah) (a:Act) (w:World) (I:a8) (β:Nat->Value),
   eE.length+l.length=fuel->Inv G ops s cx m l eE ei log env σ a w I β->hQ G ops s log l env σ K->wpAny G.P .any ops Q fuel ei a w:=by
 intro fuel;induction fuel with
 |zero=>
  intro l eE m ei log env σ a w I β n b q;have v:eE=[]:=mN (by omega);have X:l=[]:=mN (by omega);subst v X;refine⟨?_,am env σ a w q ⟨I,β,b.rw,λaC=>b.rp aC (by simp),b.sz,b.df⟩⟩;apply List.eq_nil_iff_forall_not_mem.2;intro t k;obtain⟨i,o,d,_⟩:=u1.1 k;have:=(b.ny t (lG.1 d).1).1 i;simp at this
 |succ fuel y=>
  intro l
  have P:∀{l eE:cR} {m:Nat->cR} {ei:mC} {log:List (Nat×cR)} {env:av} {σ:ah} {a:Act} {w:World} {I:a8} {β:Nat->Value},eE.length+l.length=fuel+1->
    Inv G ops s cx m l eE ei log env σ a w I β->Region.ready .any ops ei≠[]:=by
   intro l eE m ei log env σ a w I β n b;have:∃e,e∈eE\/e∈l:=by
    cases eE with
    |nil=>cases l with
     |nil=>simp at n
     |cons e _=>exact⟨e,.inr (by simp)⟩
    |cons e _=>exact⟨e,.inl (by simp)⟩
   obtain⟨e,v⟩:=this;have H:e<ops.size:=by rcases v with h|h<;>first|exact b.ps e h|exact b.ls e h
   exact Wd st b.lg _ e (eb _) H ((b.ny e H).2 v)
  induction l with
  |nil=>
   intro eE m ei log env σ a w I β n b q;refine⟨λg=>absurd g (P n b),λt k=>?_⟩;obtain⟨B,o,d,_⟩:=u1.1 k;have u:t∈eE:=by simpa using (b.ny t (lG.1 d).1).1 B
   refine b.Mp st k u λaj U F V D=>y _ _ _ _ _ _ _ _ _ _ _ ?_ D q;rw[List.length_erase_of_mem u];have:=List.length_pos_of_mem u;omega
  |cons c l T=>
   intro eE m ei log env σ a w I β n b q;obtain⟨o,d,L⟩:=q;have q:hQ G ops s log (c::l) env σ K:=⟨o,d,L⟩;have S:(c::eE).length+l.length=fuel+1:=by simp at n ⊢;omega
   have ax:∀log:List (Nat×cR),o8 s c [] log=true:=by
    intro log;induction log with
    |nil=>rfl
    |cons x r az=>obtain⟨aG,R⟩:=x;simp[o8,az]
   have N:c∈s.es->(∀(_:c∈Region.ready .any ops ei),wpOp G.P ops Q c (wpAny G.P .any ops Q fuel (ei.setIfInBounds c true)) a w)->wpAny G.P .any ops Q (fuel+1) ei a w:=by
    intro aq Aj;refine⟨λg=>absurd g (P n b),λt k=>?_⟩;obtain⟨B,aE,aB,_⟩:=u1.1 k;rcases(b.ny t (lG.1 aB).1).1 B with u|C
    .refine b.Mp st k u λaj U F V D=>y _ _ _ _ _ _ _ _ _ _ _ ?_ D q
     grind
    .rcases c5.1 C with rfl|C
     .grind
     .exfalso;have J:=b.ord;simp only[ru,b9,gE,kZ,gD,List.contains_eq_mem,iz,eY]at J;have:=(J.1 t C).2.resolve_left (λh=>h aq);have:=Fg st b.lg b.cl k c this;rw[b.Gl (.inr (by simp))]at this;cases this
   have O:eE.length+l.length=fuel:=by simp at n;omega
   rcases L with⟨i,f,p⟩|⟨i,f,c7,R,bN,aJ,Y,ag,ao,an,p⟩|⟨i,f,M,news,aI,ab,aw,aa,ar,p⟩|⟨i,f,p⟩
   .exact T (c::eE) _ ei ((c,[])::log) _ _ a w I _ S (b.pR st d (f j) (c7:=[]) (R:=[]) (aFK G σ env) (.inl ⟨i,rfl,rfl⟩)) p
   .exact T (c::eE) _ ei ((c,R)::log) _ _ a w I _ S (b.pR st d (f j) Y (.inr ⟨i,an,ag,ao⟩)) p
   .refine N (f j) λg=>?_;have z:=b.FQ st g d (λh=>absurd (f j) (by obtain⟨_,_,_,E,_⟩:=b.ni c h;exact E));have A:=b.rp.want st b.sz z;unfold wpOp;simp only[d];rw[A.1 i];simp only[fE];refine .inl (jb.wp (ab cx I β w a.eval b.rw (b.rp.ev z)) ?_);rintro aH U ⟨bN,Z,F,V,ay,ak,ae,bt,W,aA⟩;exact y _ _ _ _ _ _ _ _ _ _ _ O (b.wR st d (f j) g (aw j) aa ar ak ae bt W aA) (p bN Z ay)
   .refine N (f j) λg=>?_;have z:=b.FQ st g d (λh=>absurd (f j) (by obtain⟨_,_,_,E,_⟩:=b.ni c h;exact E));have A:=b.rp.want st b.sz z;unfold wpOp;simp only[d];rw[A.2 i];simp only[pL,h0];exact y _ _ _ _ _ _ _ _ _ _ _ O (b.wR st d (f j) g (M:=[]) (news:=[]) (bN:=.undef) (ax log) (aFN env) (by simp) (by simp[aD,a1]) b.rw (b1.refl I) (λ_ _=>rfl) (λ_ _=>rfl)) p
end any
end
section
def ar(G:bI)(c:Code)(Q:Exit->av->ah->Prop)(env:av)(σ:ah):Prop:=
 ∀cx a w,lD G cx env σ a w->c.wp G.P (λf e g=>∃d b,lD G cx d b e g/\Q f d b) a w
def ar.mono{G:bI}{c:Code}{Q H:Exit->av->ah->Prop}{env:av}{σ:ah}(h:ar G c Q env σ)(Y:∀e env σ,Q e env σ->H e env σ):ar G c H env σ:=
 λcx a w O=>wp_mono (h cx a w O) λ_ _ _ ⟨Z,S,aa,X⟩=>⟨Z,S,aa,Y _ _ _ X⟩
section code
variable {G:bI}{Q:Exit->av->ah->Prop}{env:av}{σ:ah}
def aK(h:Q .normal env σ):ar G .skip Q env σ:=λ_ _ _ a=>wp_skip ⟨env,σ,a,h⟩
variable {id:Nat}
def bQ(h:Q (.exit id) env σ):ar G (.exit id) Q env σ:=λ_ _ _ a=>wp_exit ⟨env,σ,a,h⟩
def c2(h:Q .ret env σ):ar G .ret Q env σ:=λ_ _ _ a=>wp_ret ⟨env,σ,a,h⟩
def l1(next:av->ah->Prop)(Q:Exit->av->ah->Prop):Exit->av->ah->Prop
 |.normal,env,σ=>next env σ
 |e,env,σ=>Q e env σ
variable {x:Code}
def aq{y:Code}(h:ar G x (l1 (ar G y Q) Q) env σ):ar G (.seq x y) Q env σ:=by
 intro cx c w d;refine wp_seq (wp_mono (h cx c w d) ?_);rintro i f j ⟨g,e,b,a⟩;cases i with
 |normal=>exact a cx f j b
 |_=>exact⟨g,e,b,a⟩
def NT(id:Nat)(Q:Exit->av->ah->Prop):Exit->av->ah->Prop
 |.exit a,env,σ=>bif Nat.beq a id then Q .normal env σ else Q (.exit a) env σ
 |e,env,σ=>Q e env σ
theorem aX(h:ar G x (NT id Q) env σ):ar G (.block id x) Q env σ:=by
 intro cx f w g;refine wp_block (wp_mono (h cx f w g) ?_);rintro i j k ⟨c,b,d,a⟩;cases i with
 |exit e=>
  simp only[NT,Exit.inBlock]at a ⊢;by_cases h:e=id
  .subst h;simp at a ⊢;exact⟨c,b,d,a⟩
  .have:Nat.beq e id=false:=by rw[<-mM,n9];exact h
   grind
 |_=>exact⟨c,b,d,a⟩
def A.cond{c:Operand}{x y:Code}{b:Bool}(ae:env.ev c=.bool b)(aa:b=true->ar G x Q env σ)(ab:b=false->ar G y Q env σ):ar G (.cond c x y) Q env σ:=by
 intro cx a w Z;obtain⟨I,β,Y,O,S,X⟩:=Z;have H:=O.ev c;rw[ae]at H;simp only[aD,a1]at H;exact wp_cond_split H (λe=>aa e cx a w ⟨I,β,Y,O,S,X⟩) (λe=>ab e cx a w ⟨I,β,Y,O,S,X⟩)
def A.region{id:Nat}{ops:jB}(hd:v6 G.N ops=true)(h:hQ G ops ⟨false,[],[]⟩ [] (List.range ops.size) env σ (λenv σ=>Q .normal env σ)):ar G (.region id ops false) Q env σ:=by
 intro cx a w H;exact wp_region (Cw G ops _ _ (KZ hd) _ cx (λenv σ a w O H=>⟨env,σ,H,O⟩) _ _ _ _ _ _ h H)
variable {cx:dz}{w:World}
def bE.drew{G:bI}{I:a8}{β:Nat->Value}(h:bE G cx I β σ w):bE G cx I β σ {w with drawn:=w.drawn+1}:=
 {good:=h.good,fA:=h.fA,fV:=h.fV,gm:=h.gm,frame:=h.frame,size:=h.size,tape:=h.tape,os:=h.os,output:=h.output,drawn:=gP h.drawn (Nat.le_succ _),bY:=λd o hd=>bl.heap (w:=w) (w':={w with drawn:=w.drawn+1}) rfl (h.bY d o hd),cQ:=h.cQ,tab:=h.tab,keep:=h.keep}
theorem A.any{ops:jB}(T:mh)(es l:cR)(am:G.P.follows .mixedOrders=true)(Z:Dh G.N ops ⟨true,T,es⟩ l=true)
    (h:hQ G ops ⟨true,T,es⟩ [] l env σ (λenv σ=>Q .normal env σ)):ar G (.region id ops true) Q env σ:=by
  intro cx a w H;obtain⟨st,S,O⟩:=aGg Z;obtain⟨I,β,aj,Y,aa,ae⟩:=H
  refine wp_region_any am (XV st rfl _ _ cx (λenv σ a w ak H=>⟨env,σ,H,ak⟩) ops.size l [] (λ_=>[]) _ [] env σ a _ I β ?_
    {lg:=by simp,ord:=S,ny:=λi hi=>?_,pT:=λi hi=>by simp at hi,nd:=nx,pw:=λi hi=>by simp at hi,ps:=λi hi=>by simp at hi,ls:=λi hi=>(O i).2 hi,
     cl:=λj ag=>?_,ni:=λi hi=>by simp at hi,md:=λi hi=>by simp at hi,rw:=aj.drew,rp:=λt _=>Y t,sz:=aa,df:=ae} h)
  ·
    have nd:∀l:cR,ru ⟨true,T,es⟩ l=true->l.Nodup:=by
      intro l;induction l with
      |nil=>intro _;exact nx
      |cons i l ab=>
        intro h;simp only[ru,b9,gE,gD,beq_eq_false_iff_ne]at h;exact jX.2 ⟨λhi=>(h.1 i hi).1.2 rfl,ab h.2⟩
    have X:l.Perm (List.range ops.size):=(List.perm_ext_iff_of_nodup (nd l S) List.nodup_range).2 λi=>by rw[pQ];exact(O i).symm
    simpa using X.length_eq
  · simp_all
  · simp only[vb,Array.getElem?_replicate]at ag
    grind
def cZ(G:bI)(env:av)(σ:ah)(dc:av)(σ2:ah):Prop:=
 ∀cx I β a w,bE G cx I β σ w->iC I β env a->∃b c,bE G cx b c σ2 w/\iC b c dc a
def cZ.refl(G:bI)(env:av)(σ:ah):cZ G env σ env σ:=λ_ I β _ _ h H=>⟨I,β,h,H⟩
def cZ.trans{O dc:av}{H σ2:ah}(h:cZ G env σ O H)(X:cZ G O H dc σ2):cZ G env σ dc σ2:=λcx I β a w aa Q=>by
 obtain⟨Z,ab,S,Y⟩:=h cx I β a w aa Q;exact X cx Z ab a w S Y
def cZ.rel{dc:av}{σ2:ah}(h:cZ G env σ dc σ2){a:Act}(H:lD G cx env σ a w):lD G cx dc σ2 a w:=by
 obtain⟨I,β,aa,O,Q,X⟩:=H;obtain⟨Y,ab,Z,S⟩:=h cx I β a w aa O;exact⟨Y,ab,Z,S,Q,X⟩
def aFs{c:Code}{dc:av}{σ2:ah}(h:cZ G env σ dc σ2)(k:ar G c Q dc σ2):ar G c Q env σ:=λcx a w b=>k cx a w (h.rel b)
def A.loop{c:Code}{α:Type}(aj:α->av)(ag:α->ah)(am:α->Prop)(μ:α->Nat)(ak:α)(aH:am ak)(aq:cZ G env σ (aj ak) (ag ak))
  (step:∀g,am g->ar G c (l1 (λS H=>∃Y,am Y/\μ Y<μ g/\cZ G S H (aj Y) (ag Y)) Q) (aj g) (ag g)):ar G (.loop c) Q env σ:=by
 intro cx a w an b k cs
 have key:∀n g a w,μ g=n->am g->lD G cx (aj g) (ag g) a w->∃e ae w',(∃S H,lD G cx S H ae w'/\Q e S H)/\
   Arrives G.P (lone (b.at a (.code c::.inLoop c::k)) cs w) b k cs e ae w':=by
  intro n;induction n using Nat.strongRecOn with
  |_ n ax=>
   intro g a w aE ay an;obtain⟨e,ab,aa,O,X⟩:=step g ay cx a w an b (.inLoop c::k) cs;obtain⟨S,H,Z,O⟩:=O;cases e with
   |normal=>
    obtain⟨Y,az,aw,aG⟩:=O;obtain⟨aC,aD,ao,aB,aA⟩:=ax (μ Y) (aE▸aw) Y ab aa rfl az (aG.rel Z);exact⟨aC,aD,ao,aB,.of_steps (Steps.trans X (.one step_inLoop)) aA⟩
   |exit id=>exact⟨_,ab,aa,⟨S,H,Z,O⟩,.pass (x:=.inLoop c) rfl (λ_ _=>.inl (by simp)) X⟩
   |goto l=>exact⟨_,ab,aa,⟨S,H,Z,O⟩,.pass (x:=.inLoop c) rfl (λ_ _=>.inl (by simp)) X⟩
   |ret=>exact⟨_,ab,aa,⟨S,H,Z,O⟩,.pass (x:=.inLoop c) rfl (λ_ _=>.inl (by simp)) X⟩
   |panic aI=>exact⟨_,ab,aa,⟨S,H,Z,O⟩,.pass (x:=.inLoop c) rfl (λ_ _=>.inl (by simp)) X⟩
   |outgrown=>exact⟨_,ab,aa,⟨S,H,Z,O⟩,.pass (x:=.inLoop c) rfl (λ_ _=>.inl (by simp)) X⟩
 obtain⟨e,ae,w',O,X⟩:=key _ ak a w rfl aH (aq.rel an);exact⟨e,ae,w',O,.of_steps (.one step_loop) X⟩
end code
mutual
def U.closed:U->Bool
 |.agg cs=>i1 cs
 |.bO cs=>i1 cs
 |.fn _ cs=>i1 cs
 |.own _=>false
 |.ptr _ _=>false
 |.cU _ _=>false
 |.cc _=>false
 |_=>true
def i1:List U->Bool
 |[]=>true
 |x::r=>x.closed&&i1 r
end
mutual
def aD.closed{I:a8}{β:Nat->Value}:∀(a:U) (v:Value),a.closed=true->aD I β a v->a1 I a v
 |.dH,_,_,_=>trivial
 |.undef,_,_,h|.int _ _,_,_,h|.bool _,_,_,h|.str _,_,_,h|.bn _ _,_,_,h|.dI _,_,_,h|.aF,_,_,h|.gT,_,_,h|.cD _ _,_,_,h|.gj,_,_,h|.iY _,_,_,h|.dK _,_,_,h|.gr _,_,_,h|.arr _,_,_,h=>by simpa only[aD]using h
 |.agg cs,v,H,h=>by
  simp only[a1,aD,U.closed]at h H ⊢;obtain⟨vs,Q,O⟩:=h;exact⟨vs,Q,bD.closed cs _ H O⟩
 |.bO cs,v,H,h=>by
  simp only[a1,aD,U.closed]at h H ⊢;obtain⟨vs,Q,O⟩:=h;exact⟨vs,Q,bD.closed cs _ H O⟩
 |.fn f cs,v,H,h=>by
  simp only[a1,aD,U.closed]at h H ⊢;obtain⟨vs,Q,O⟩:=h;exact⟨vs,Q,bD.closed cs _ H O⟩
 |.own _,_,H,_=>by simp[U.closed]at H
 |.ptr _ _,_,H,_=>by simp[U.closed]at H
 |.cU _ _,_,H,_=>by simp[U.closed]at H
 |.cc _,_,H,_=>by simp[U.closed]at H
def bD.closed{I:a8}{β:Nat->Value}:∀(a:List U) (v:hD),i1 a=true->bD I β a v->bP I a v
 |[],_,_,h=>h
 |x::r,v,H,h=>by
  simp only[bD,bP,i1,b9]at h H ⊢;obtain⟨u,O,X,Q,S⟩:=h;exact⟨u,O,X,aD.closed x u H.1 Q,bD.closed r O H.2 S⟩
end
mutual
inductive gp(σ:ah):U->U->Prop
 |refl (a:U):gp σ a a
 |nil (f:Bool):gp σ .aF (.bn f [])
 |gj:gp σ .gj (.bn false [])
 |full (xs:List (List U)):gp σ (.bn true xs) (.bn false xs)
 |own {d:Nat} {T:TypeId} {sz k:Nat} {xs:List (List U)} (h:σ.get d=some (.slice T sz xs k true)):gp σ (.own d) (.bn false xs)
 |win {d:Nat} {T:TypeId} {sz:Nat} {xs:List (List U)} (h:σ.get d=some (.win T sz xs)):gp σ (.own d) (.bn false xs)
 |jY {d:Nat} {K E:TypeId} {bG:List (U×U)} (h:σ.get d=some (.jY K E bG)):gp σ (.cc d) (.dK bG)
 |agg {cs ku:List U} (h:jR σ cs ku):gp σ (.agg cs) (.agg ku)
 |bO {cs ku:List U} (h:jR σ cs ku):gp σ (.bO cs) (.bO ku)
 |fn {f:Nat} {cs ku:List U} (h:jR σ cs ku):gp σ (.fn f cs) (.fn f ku)
 |dH (a:U):gp σ a .dH
 |cD {f:Nat} {a:U} {cs:List U} (h:gp σ a (.fn f cs)) (ag:i1 cs=true):gp σ a (.cD f cs)
inductive jR(σ:ah):List U->List U->Prop
 |nil:jR σ [] []
 |cons {a b:U} {r s:List U} (h:gp σ a b) (t:jR σ r s):jR σ (a::r) (b::s)
end
def Cl{I:a8}{b:Nat}:∀(cs:List U) (o:Nat) (vs:hD),bP I cs vs->(∀(j:Nat) v,vs[j]?=some v->I b ((o+j:Nat))=some v)->iw I b cs o
 |[],_,_,_,_=>trivial
 |x::r,o,vs,h,a=>by
  simp only[bP]at h;obtain⟨c,f,rfl,g,e⟩:=h;refine⟨⟨c,by simpa using a 0 c rfl,g⟩,Cl r (o+1) f e λj v d=>?_⟩;have:=a (j+1) v (by simpa using d)
  rwa [show o+(j+1)=o+1+j from by omega]at this
theorem h8{I:a8}:∀(xs ys:List U) (vs:hD),bP I (xs++ys) vs↔∃b a,vs=b++a/\bP I xs b/\bP I ys a
 |[],ys,vs=>by
  simp only[lC,bP];exact⟨λi=>⟨[],vs,rfl,rfl,i⟩,λ⟨b,a,c,e,d⟩=>by subst e;simp at c;subst c;exact d⟩
 |x::r,ys,vs=>by
  simp only[l6,bP];constructor
  .rintro⟨h,b,rfl,c,e⟩;obtain⟨f,a,rfl,d,g⟩:=(h8 r ys b).1 e
   grind
  .rintro⟨b,a,rfl,⟨h,f,rfl,c,d⟩,g⟩;exact⟨h,f++a,rfl,c,(h8 r ys _).2 ⟨f,a,rfl,d,g⟩⟩
def jG{I:a8}:∀(xs:List U) (vs:hD),bP I xs vs->vs.length=xs.length
 |[],vs,h=>by simp only[bP]at h;subst h;rfl
 |x::r,vs,h=>by
  simp only[bP]at h;obtain⟨c,b,rfl,_,a⟩:=h;simp[jG r b a]
def nS{I:a8}{β:Nat->Value}:∀(xs:List U) (vs:hD),bD I β xs vs->vs.length=xs.length
 |[],vs,h=>by simp only[bD]at h;subst h;rfl
 |x::r,vs,h=>by
  simp only[bD]at h;obtain⟨c,b,rfl,_,a⟩:=h;simp[nS r b a]
def uW{I:a8}{b:Nat}:∀(xs:List (List U)) (o:Nat) (vs:hD),bP I xs.flatten vs->(∀(j:Nat) v,vs[j]?=some v->I b ((o+j:Nat))=some v)->fT I b xs o
 |[],_,_,_,_=>trivial
 |e::r,o,vs,h,f=>by
  simp only[kk]at h;obtain⟨c,l,rfl,g,k⟩:=(h8 _ _ _).1 h;have i:=jG _ _ g
  refine⟨Cl e o c g λj v a=>f j v (by
    rw[nu (by rcases Nat.lt_or_ge j c.length with d|d;exact d;rw[List.getElem?_eq_none d]at a;cases a)];exact a),
   uW r (o+e.length) l k λj v a=>?_⟩
  have:=f (c.length+j) v (by rw[pO (by omega)];simpa using a)
  rwa [i,<-mD]at this
section sealing
variable {G:bI}{cx:dz}{I:a8}{β:Nat->Value}{σ:ah}{w:World}
theorem bE.slice(h:bE G cx I β σ w){d:Nat}{T:TypeId}{sz k:Nat}{xs:List (List U)}(hd:σ.get d=some (.slice T sz xs k true)){v:Value}(O:aD I β (.own d) v):
  aD I β (.bn false xs) v:=by
 simp only[aD]at O;obtain⟨rfl,Q⟩:=O;have:=h.bY d _ hd;simp only[bl]at this;rcases this with H|⟨H,rfl,_⟩|⟨b,aY,arr,H,S,X,Z,aa,Y,ab,ae,ag,aj,ak⟩
 .rw[H]at Q;simp[gU]at Q
 .rw[H];simp only[aD,a1];exact⟨none,0,rfl,by simp,by simp[maxLen],by simp,by simp⟩
 .rw[H];simp only[aD,a1];refine⟨_,aY,rfl,S,X,by simp,.inr ⟨b,0,rfl,?_⟩⟩;refine uW xs 0 _ Y λj v O=>?_
  grind
def bE.win(h:bE G cx I β σ w){d:Nat}{T:TypeId}{sz:Nat}{xs:List (List U)}(hd:σ.get d=some (.win T sz xs)){v:Value}(O:aD I β (.own d) v):
  aD I β (.bn false xs) v:=by
 simp only[aD]at O;obtain⟨rfl,Q⟩:=O;have:=h.bY d _ hd;simp only[bl]at this;rcases this with H|⟨H,rfl⟩|⟨b,Z,aY,arr,H,S,X,aa,ab,Y,ae,ag,aj⟩
 .rw[H]at Q;simp[gU]at Q
 .rw[H];simp only[aD,a1];exact⟨none,0,rfl,by simp,by simp[maxLen],by simp,by simp⟩
 .rw[H];simp only[aD,a1];exact⟨_,aY,rfl,S,X,by simp,.inr ⟨b,Z,rfl,Y⟩⟩
mutual
def gp.rep(Q:bE G cx I β σ w):∀{a r:U},gp σ a r->∀v,aD I β a v->aD I β r v
 |_,_,.gj,v,h=>by
  simp only[aD,a1]at h ⊢;obtain⟨a,c,aa,Y⟩:=h;exact⟨some a,c,aa,by simp,Y,by simp,by simp⟩
 |_,_,.refl _,_,h=>h
 |_,_,.cD S Y,v,h=>by
  have H:=gp.rep Q S v h;simp only[aD,a1]at H ⊢;obtain⟨vs,O,X⟩:=H;exact⟨vs,O,bD.closed _ _ Y X⟩
 |_,_,.nil f,v,h=>by
  simp only[aD,a1]at h ⊢;exact⟨none,0,h,by simp,by simp[maxLen],by simp,by simp⟩
 |_,_,.full xs,v,h=>by
  simp only[aD,a1]at h ⊢;obtain⟨a,c,H,O,X,_,ak⟩:=h;exact⟨a,c,H,O,X,by simp,ak⟩
 |_,_,.own hd,v,h=>Q.slice hd h
 |_,_,.win hd,v,h=>Q.win hd h
 |_,_,.jY hd,v,h=>by
  simp only[aD]at h;obtain⟨rfl,Z⟩:=h;have:=Q.bY _ _ hd;simp only[bl]at this;rcases this with q|⟨r,es,clock,ab,aj,ae,_,ag⟩
  .rw[q]at Z;simp[l3]at Z
  .rw[ab];simp only[aD,a1];exact⟨r,es,clock,rfl,aj,ae,ag⟩
 |_,_,.agg S,v,h=>by
  simp only[aD]at h ⊢;obtain⟨vs,H,O⟩:=h;exact⟨vs,H,jR.rep Q S _ O⟩
 |_,_,.bO S,v,h=>by
  simp only[aD]at h ⊢;obtain⟨vs,H,O⟩:=h;exact⟨vs,H,jR.rep Q S _ O⟩
 |_,_,.fn S,v,h=>by
  simp only[aD]at h ⊢;obtain⟨vs,H,O⟩:=h;exact⟨vs,H,jR.rep Q S _ O⟩
 |_,_,.dH _,v,h=>by simp[aD]
def jR.rep(H:bE G cx I β σ w):∀{a r:List U},jR σ a r->∀vs,bD I β a vs->bD I β r vs
 |_,_,.nil,_,h=>h
 |_,_,.cons S Y,vs,h=>by
  simp only[bD]at h ⊢;obtain⟨u,O,Z,Q,X⟩:=h;exact⟨u,O,Z,gp.rep H S u Q,jR.rep H Y O X⟩
end
def bE.sub{σ2:ah}(h:bE G cx I β σ w)(H:∀d o,σ2.get d=some o->σ.get d=some o):bE G cx I β σ2 w:=
  {h with bY:=λd o e=>h.bY d o (H d o e),
          cQ:=λd cA e O=>by
            obtain⟨o,e⟩:=hZ.1 e;obtain⟨Q,O⟩:=hZ.1 O;exact h.cQ d cA (by rw[H d o e];rfl) (by rw[H cA Q O];rfl)}
def b4.qM:b4->b4
 |.slice T sz xs _ _=>.slice T sz xs xs.length true
 |.map K E H=>.jY K E H
 |o=>o
def ah.freeze(bL:cR):ah->ah
 |[]=>[]
 |(d,o)::r=>(d,bif bL.contains d then o.qM else o)::ah.freeze bL r
theorem aFk(bL:cR):∀(σ:ah) (d:Nat),(ah.freeze bL σ).get d=(σ.get d).map λo=>if d∈bL then o.qM else o
 |[],d=>rfl
 |(k,o)::r,d=>by
  simp only[ah.freeze,aFc,aFk bL r d];split
  .grind
  .rfl
def bl.IF{O:a8}{d b:Nat}{o:b4}(bt:b1 I O)(S:∀H o,H≠b->O H o=I H o)(X:∀H∈ct (β d),H≠b)(Q:bl cx I β w d o):bl cx O β w d o:=Q.Ai bt rfl (fQ.refl _) λH e=>⟨λ_=>rfl,λo=>S H o (X H e),id⟩
theorem bE.ZG(h:bE G cx I β σ w)(e:Nat):∃Y,b1 I Y/\bE G cx Y β (σ.freeze [e]) w:=by
 cases ab:σ.get e with
 |none=>
  refine⟨I,b1.refl I,h.sub λd o hd=>?_⟩;rw[aFk]at hd;cases H:σ.get d with
  |none=>rw[H]at hd;cases hd
  |some ao=>
   rw[H]at hd;have:d∉[e]:=by intro S;simp at S;subst S;rw[ab]at H;cases H
   simp only[iS,this,h0]at hd;exact hd
 |some o=>
  have X:(∀ao,o.qM=ao->ao=o)->∃Y,b1 I Y/\bE G cx Y β (σ.freeze [e]) w:=by
   intro aX;refine⟨I,b1.refl I,h.sub λd ao hd=>?_⟩;rw[aFk]at hd;cases H:σ.get d with
   |none=>rw[H]at hd;cases hd
   |some aa=>
    rw[H]at hd;simp only[iS,ee]at hd;split at hd
    .grind
    .rw[hd]
  cases o with
  |cells T cs=>exact X (λ_ e=>e.symm)
  |jY K E aC=>exact X (λ_ e=>e.symm)
  |gl es clock K E aC=>exact X (λ_ e=>e.symm)
  |iter aR aW aV seen=>exact X (λ_ e=>e.symm)
  |hdr aR n=>exact X (λ_ e=>e.symm)
  |win T sz xs=>exact X (λ_ e=>e.symm)
  |de dV=>exact X (λ_ e=>e.symm)
  |hM T e n ax=>exact X (λ_ e=>e.symm)
  |oA T sz xs aI e ax=>exact X (λ_ e=>e.symm)
  |fL T sz xs aI e ax=>exact X (λ_ e=>e.symm)
  |qc T xs t=>exact X (λ_ e=>e.symm)
  |vec T xs=>exact X (λ_ e=>e.symm)
  |tC es clock aC seen=>exact X (λ_ e=>e.symm)
  |eo K E e keys ax aU=>exact X (λ_ e=>e.symm)
  |map K E aC=>
   have ae:=h.bY e _ ab;simp only[bl]at ae;rcases ae with Z|⟨r,es,clock,Z,aD,ar,am,an,aw⟩
   .refine⟨I,b1.refl I,{h with bY:=λd o hd=>?_,cQ:=λd cA hd H=>?_}⟩
    .rw[aFk]at hd;cases H:σ.get d with
     |none=>rw[H]at hd;cases hd
     |some aa=>
      rw[H]at hd;simp only[iS,ee]at hd;subst hd;split
      .rename_i S;simp at S;subst S;rw[ab]at H;cases H;exact .inl Z
      .exact h.bY d aa H
    .rw[aFk,Option.isSome_map]at hd H;exact h.cQ d cA hd H
   .let Y:a8:=λb o=>if b=r/\o=none then some (lY es clock)else I b o
    have bt:b1 I Y:=λb o v Q=>by
     show(if b=r/\o=none then some (lY es clock)else I b o)=some v;split
     .grind
     .exact Q
    have ak:∀b o,b≠r->Y b o=I b o:=λb o aj=>by
     show(if b=r/\o=none then some (lY es clock)else I b o)=_;rw[bw (λag=>aj ag.1)]
    have aA:bR (β e)=some r:=by rw[Z];rfl
    refine⟨Y,bt,{good:=λO o v Q=>?_,fA:=λO v Q=>?_,fV:=λO o v Q=>bt _ _ _ (h.fV _ _ _ Q),gm:=λO aq aB o=>?_,frame:=h.frame,size:=h.size,tape:=h.tape,os:=h.os,output:=h.output,drawn:=h.drawn,bY:=λd o hd=>?_,cQ:=λd cA hd H=>?_,tab:=h.tab,keep:=h.keep}⟩
    .refine h.good O o v ?_
     grind
    .change (if O=r/\none=none then some (lY es clock)else I O none)=some v at Q
     split at Q
     .grind
     .exact h.fA O v Q
    .have aj:O≠r:=λe=>by
      subst e;rcases an with q|q
      .omega
      .grind
     rw[ak O o aj];exact h.gm O aq aB o
    .rw[aFk]at hd;cases H:σ.get d with
     |none=>rw[H]at hd;cases hd
     |some aa=>
      rw[H]at hd;simp only[iS,ee]at hd;subst hd;by_cases ib:d=e
      .subst ib;rw[ab]at H;cases H;simp only[gL,fE,b4.qM,bl];exact .inr ⟨r,es,clock,Z,by show(if r=r/\none=none then some (lY es clock)else I r none)=_;rw[bx ⟨rfl,rfl⟩],qa bt _ _ ar,an,aw⟩
      .have S:d∉[e]:=by simpa using ib
       rw[bw S];refine(h.bY d aa H).IF bt ak λO az ay=>?_;subst ay;exact h.cQ d e (by rw[H];rfl) (by rw[ab];rfl) ib O az (i4 aA)
    .rw[aFk,Option.isSome_map]at hd H;exact h.cQ d cA hd H
  |slice T sz xs k bL=>
   have ae:=h.bY e _ ab;simp only[bl]at ae;rcases ae with Z|⟨Z,rfl,rfl⟩|⟨b,aY,arr,Z,aD,ar,am,an,aw,aH,aK,aT,aL,aE⟩
   .refine⟨I,b1.refl I,{h with bY:=λd o hd=>?_,cQ:=λd cA hd H=>?_}⟩
    .rw[aFk]at hd;cases H:σ.get d with
     |none=>rw[H]at hd;cases hd
     |some aa=>
      rw[H]at hd;simp only[iS,ee]at hd;subst hd;split
      .rename_i S;simp at S;subst S;rw[ab]at H;cases H;exact .inl Z
      .exact h.bY d aa H
    .rw[aFk,Option.isSome_map]at hd H;exact h.cQ d cA hd H
   .refine⟨I,b1.refl I,{h with bY:=λd o hd=>?_,cQ:=λd cA hd H=>?_}⟩
    .rw[aFk]at hd;cases H:σ.get d with
     |none=>rw[H]at hd;cases hd
     |some aa=>
      rw[H]at hd;simp only[iS,ee]at hd;subst hd;split
      .rename_i S;simp at S;subst S;rw[ab]at H;cases H;exact .inr (.inl ⟨Z,rfl,rfl⟩)
      .exact h.bY d aa H
    .rw[aFk,Option.isSome_map]at hd H;exact h.cQ d cA hd H
   .let Y:a8:=I.on λO o=>if O=b/\o<xs.length*sz then arr[o]? else I O o
    have bt:b1 I Y:=λO o v Q=>by
     cases o with
     |none=>exact Q
     |some o=>
     show(if O=b/\o<xs.length*sz then arr[o]? else I O o)=some v;split
     .rename_i ag;obtain⟨rfl,aG⟩:=ag;have aJ:=h.good O o v Q;simp only[World.cell?,am]at aJ
      grind
     .exact Q
    have ak:∀O o,O≠b->Y O o=I O o:=λO o aj=>by
     cases o with
     |none=>rfl
     |some o=>
     show(if O=b/\o<xs.length*sz then arr[o]? else I O o)=_;rw[bw (λag=>aj ag.1)]
    have aA:bR (β e)=some b:=by rw[Z];rfl
    refine⟨Y,bt,{good:=λO o v Q=>?_,fA:=h.fA,fV:=λO o v Q=>bt _ _ _ (h.fV _ _ _ Q),gm:=λO aq aB o=>?_,frame:=h.frame,size:=h.size,tape:=h.tape,os:=h.os,output:=h.output,drawn:=h.drawn,bY:=λd o hd=>?_,cQ:=λd cA hd H=>?_,tab:=h.tab,keep:=h.keep}⟩
    .change (if O=b/\o<xs.length*sz then arr[o]? else I O o)=some v at Q
     split at Q
     .rename_i ag;obtain⟨rfl,aG⟩:=ag;simp only[World.cell?,am]
      grind
     .exact h.good O o v Q
    .have aj:O≠b:=λe=>by
      subst e;rcases aE with q|q
      .omega
      .grind
     rw[ak O o aj];exact h.gm O aq aB o
    .rw[aFk]at hd;cases H:σ.get d with
     |none=>rw[H]at hd;cases hd
     |some aa=>
      rw[H]at hd;simp only[iS,ee]at hd;subst hd;by_cases ib:d=e
      .subst ib;rw[ab]at H;cases H;simp only[gL,fE,b4.qM,bl];refine .inr (.inr ⟨b,aY,arr,Z,aD,ar,am,an,k9 bt _ _ aw,aH,eb _,λ_ o ae=>?_,λo ae=>?_,aE⟩)
       .show(if b=b/\o<xs.length*sz then arr[o]? else I b o)=_
        grind
       .show(if b=b/\o<xs.length*sz then arr[o]? else I b o)=_;rw[bw (λag=>by omega)];exact aL o (gP (hp _ aK) ae)
      .have S:d∉[e]:=by simpa using ib
       rw[bw S]
       have aN:∀O∈ct (β d),O≠b:=λO az ay=>by
        subst ay;exact h.cQ d e (by rw[H];rfl) (by rw[ab];rfl) ib O az (i4 aA)
       exact(h.bY d aa H).IF bt ak aN
    .rw[aFk,Option.isSome_map]at hd H;exact h.cQ d cA hd H
theorem bE.Cm(h:bE G cx I β σ w):∀bL:cR,∃O,b1 I O/\bE G cx O β (σ.freeze bL) w:=by
 intro bL;induction bL generalizing σ I with
 |nil=>
  refine⟨I,b1.refl I,h.sub λd o hd=>?_⟩;rw[aFk]at hd;simpa using hd
 |cons e r X=>
  obtain⟨ag,Z,ab⟩:=h.ZG e;obtain⟨Y,aa,S⟩:=X ab;refine⟨Y,Z.trans aa,S.sub λd o hd=>?_⟩;rw[aFk]at hd;rw[aFk,aFk];cases Q:σ.get d with
  |none=>rw[Q]at hd;cases hd
  |some H=>
   rw[Q]at hd;simp only[iS,ee]at hd ⊢;rw[<-hd];have ae:H.qM.qM=H.qM:=by cases H<;>rfl
   by_cases ib:d=e
   .grind
   .grind
end sealing
def cZ.freeze(G:bI)(env:av)(σ:ah)(bL:cR):cZ G env σ env (σ.freeze bL):=λcx I β a w h O=>by
 obtain⟨Q,bt,H⟩:=h.Cm bL;exact⟨Q,β,H,O.mono bt (fQ.refl β)⟩
theorem cZ.drop{G:bI}{env dc:av}{σ σ2:ah}(Z:∀p∈dc,gp σ (env.get p.1) p.2)(ab:∀p∈σ2,σ.get p.1=some p.2):cZ G env σ dc σ2:=λcx I β a w h X=>by
 have Y:∀(l:av) t,l.get t=.dH\/∃p∈l,p.1=t/\l.get t=p.2:=by
  intro l;induction l with
  |nil=>exact λ_=>.inl rfl
  |cons x r S=>
   intro t;obtain⟨k,v⟩:=x;rw[aFr];split
   .simp_all
   .grind
 have aa:∀(l:ah) d o,l.get d=some o->∃p∈l,p.1=d/\p.2=o:=by
  intro l;induction l with
  |nil=>intro d o h;simp[ah.get]at h
  |cons x r S=>
   intro d o h;obtain⟨k,v⟩:=x;rw[aFc]at h;split at h
   .simp_all
   .grind
 refine⟨I,β,h.sub λd o hd=>?_,λt=>?_⟩
 .grind
 .rcases Y dc t with H|⟨p,H,O,Q⟩
  .rw[H];simp[aD]
  .rw[Q];subst O;exact(Z p H).rep h _ (X p.1)
def aFw{G:bI}{c:Code}{Q:Exit->av->ah->Prop}{env:av}{σ:ah}(h:∀cx a w,lD G cx env σ a w->c.wp G.P (λe f w'=>∃d b,lD G cx d b f w'/\Q e d b) a w):ar G c Q env σ:=h
def ar.use{G:bI}{c:Code}{Q:Exit->av->ah->Prop}{env:av}{σ:ah}(h:ar G c Q env σ)(cx:dz)(a:Act)(w:World)(S:lD G cx env σ a w):c.wp G.P (λe X w'=>∃O H,lD G cx O H X w'/\Q e O H) a w:=h cx a w S
attribute [irreducible] ar
end
section
variable {au:Bool}
variable {I:a8}{r:Nat->Nat}{β β':Nat->Value}
def No{p:Nat->Bool}(h:∀d,p d=false->β' (r d)=β d)(x:U)(v:Value)(e:x.refs p=false)(q:aD I β x v):aD I β' (x.cC r) v:=CX (b1.refl I) (λd e=>.inr (h d e)) x v e q
def XW{p:Nat->Bool}(h:∀d,p d=false->β' (r d)=β d)(x:List U)(v:hD)(e:lZ p x=false)(q:bD I β x v):bD I β' (k1 r x) v:=y2 (b1.refl I) (λd e=>.inr (h d e)) x v e q
def av.cC(r:Nat->Nat)(env:av):av:=env.map λp=>(p.1,p.2.cC r)
def ah.cC(r:Nat->Nat)(σ:ah):ah:=σ.map λp=>(r p.1,p.2.cC r)
def aF9(r:Nat->Nat):∀(env:av) t,(env.cC r).get t=(env.get t).cC r
 |[],t=>by simp[av.cC,av.get,U.cC]
 |(k,v)::l,t=>by
  have:=aF9 r l t;simp only[av.cC]at this ⊢;simp only[dr,aFr];split
  .rfl
  .exact this
def v7(r s:Nat->Nat)(ids:cR)(env:av)(σ:ah):Bool:=
 env.clean (λa=>!Nat.beq (s (r a)) a)&&σ.clean (λa=>!Nat.beq (s (r a)) a)&&ids.all (λa=>Nat.beq (s a) a)
theorem cZ.cC{G:bI}{env:av}{σ:ah}(r s:Nat->Nat)(aa:v7 r s G.ids env σ=true):cZ G env σ (env.cC r) (σ.cC r):=λcx I β a w h ao=>by
 simp only[v7,b9,gE,n9]at aa;obtain⟨⟨ay,ag⟩,aj⟩:=aa
 have Z:∀d,(!Nat.beq (s (r d)) d)=false->(λx=>β (s x)) (r d)=β d:=λd hd=>by
  have:s (r d)=d:=by simpa using hd
  show β (s (r d))=β d;rw[this]
 have obj:∀d o,(σ.cC r).get d=some o->∃d0 H,σ.get d0=some H/\d=r d0/\o=H.cC r/\s (r d0)=d0/\kR (λd=>!Nat.beq (s (r d)) d) H=false:=by
  intro d o hd
  have key:∀(l:ah),l.clean (λd=>!Nat.beq (s (r d)) d)=true->(ah.cC r l).get d=some o->∃d0 H,l.get d0=some H/\d=r d0/\o=H.cC r/\s (r d0)=d0/\kR (λd=>!Nat.beq (s (r d)) d) H=false:=by
   intro l;induction l with
   |nil=>intro _ h;simp[ah.cC,ah.get]at h
   |cons x t an=>
    obtain⟨k,v⟩:=x;intro S h;simp only[ah.clean,b9,gD,qz]at S;simp only[ah.cC,dr,aFc]at h;have az:s (r k)=k:=by simpa using S.1.1
    split at h
    .rename_i ab;cases h;exact⟨k,v,by simp[aFc],ab.symm,rfl,az,S.1.2⟩
    .rename_i ab;obtain⟨d0,H,Q,aq,am,O,X⟩:=an S.2 h;refine⟨d0,H,?_,aq,am,O,X⟩;rw[aFc,bw]
     all_goals grind
  exact key σ ag hd
 refine⟨I,λx=>β (s x),{h with bY:=λd o hd=>?_,cQ:=λd cA hd Y ak b=>?_,keep:=λd hd=>?_},λt=>?_⟩
 .obtain⟨d0,H,Q,rfl,rfl,O,X⟩:=obj d o hd;have ae:=h.bY d0 H Q;exact ae.go (b1.refl I) (by simp only[O]) (λx e=>.inr (Z x e)) (λb _=>⟨λ_=>rfl,λ_=>rfl,id⟩) X
 .obtain⟨o,hd⟩:=hZ.1 hd;obtain⟨ax,Y⟩:=hZ.1 Y;obtain⟨d0,H,Q,rfl,_,O,_⟩:=obj d o hd;obtain⟨d1,aA,ar,rfl,_,aw,_⟩:=obj cA ax Y;simp only[O,aw];exact h.cQ d0 d1 (by rw[Q];rfl) (by rw[ar];rfl) (λe=>ak (by rw[e])) b
 .have:=aj d hd;simp only[this];exact h.keep d hd
 .rw[aF9];exact No (r:=r) Z _ _ (aFB ay t) (ao t)
variable {G:bI}{σ:ah}
theorem aHr{env:av}(t d:Nat)(T:TypeId)(sz:Nat)(x:env.get t=.aF)(A:σ.get d=none)(hi:G.ids.contains d=false)(v:env.clean (Nat.beq d)=true)(q:σ.clean (Nat.beq d)=true):
  cZ G env σ ((t,.own d)::env) ((d,.slice T sz [] 0 false)::σ):=λz I β y w h m=>by
 let β':Nat->Value:=λa=>if a=d then .slice none 0 0 else β a
 have f:∀a,Nat.beq d a=false->β' a=β a:=λa c=>by
  have:a≠d:=λe=>by subst e;simp at c
  show(if a=d then _ else β a)=_;rw[bw this]
 have g:β' d=.slice none 0 0:=by show(if d=d then _ else _)=_;rw[bx rfl]
 refine⟨I,β',{h with bY:=λa n e=>?_,cQ:=λa l j k s b=>?_,keep:=λa c=>?_},λo=>?_⟩
 .rw[aFc]at e;split at e
  .rename_i c;subst c;cases e
   simp only[bl,g]
   grind
  .obtain⟨r,p⟩:=aFi q a n e;exact(h.bY a n e).beta f r p
 .rw[aFc]at j k;by_cases c:d=a
  .subst c;rw[g];simp[Cv]
  .by_cases i:d=l
   .subst i;rw[g];simp[Cv]
   .rw[bw c]at j;rw[bw i]at k;rw[f a (by rw[<-mM,n9];exact c),f l (by rw[<-mM,n9];exact i)];exact h.cQ a l j k s b
 .have:d≠a:=λe=>by subst e;simp at hi;exact hi c
  rw[f a (by rw[<-mM,n9];exact this)];exact h.keep a c
 .rw[aFr];split
  .rename_i u;subst u;have:=m t;rw[x]at this;simp only[aD,a1]at this;simp only[aD,this,g,gU,and_self]
  .exact sW f _ _ (aFB v o) (m o)
def U.wC:U->Prop
 |.bn _ xs=>xs.length<=maxLen
 |_=>True
def H1:List U->Prop
 |[]=>True
 |x::r=>x.wC/\H1 r
def U.af:U->Prop
 |.bn _ xs=>xs.length<=maxLen
 |.agg cs=>H1 cs
 |_=>True
def wj:List U->Prop
 |[]=>True
 |x::r=>x.af/\wj r
def aD.wC{I:a8}{β:Nat->Value}{a:U}{v:Value}(h:aD I β a v):a.wC:=by
 cases a<;>simp only[U.wC]
 simp only[aD,a1]at h;omega
def bD.af{I:a8}{β:Nat->Value}:∀{a:List U} {v:hD},bD I β a v->H1 a
 |[],_,_=>trivial
 |x::r,_,h=>by
  simp only[bD]at h;obtain⟨_,_,_,O,H⟩:=h;exact⟨O.wC,bD.af H⟩
def aD.af{I:a8}{β:Nat->Value}{a:U}{v:Value}(h:aD I β a v):a.af:=by
 cases a<;>simp only[U.af]
 .exact h.wC
 .simp only[aD]at h;obtain⟨_,_,h⟩:=h;exact h.af
def bD.wj{I:a8}{β:Nat->Value}:∀{a:List U} {v:hD},bD I β a v->wj a
 |[],_,_=>trivial
 |x::r,_,h=>by
  simp only[bD]at h;obtain⟨_,_,_,O,H⟩:=h;exact⟨O.af,bD.wj H⟩
def ah.ids(σ:ah):cR:=σ.map (·.1)
def cz(au:Bool)(P:Program)(f:FuncId)(agF:ah)(args:List U)(Post:U->ah->Prop):Prop:=
 ∀(c:dz) (w:World) (I:a8) (β:Nat->Value) (e:hD),bE ⟨P,0,agF.ids,au⟩ c I β agF w->bD I β args e->
  Calls P f e.toArray w (λg h=>∃d,g=.returned d/\∃r a b β',Post r a/\aD b β' r d/\bE ⟨P,0,agF.ids,au⟩ c b β' a h)
variable {P:Program}{Post:U->ah->Prop}{agF:ah}{args:List U}{f:FuncId}
def cz.mono{O:U->ah->Prop}(h:cz au P f agF args Post)(Q:∀r H,Post r H->O r H):cz au P f agF args O:=
 λcx w I β vs ab X=>hV (h cx w I β vs ab X) λ_ _ ⟨v,ae,r,H,aa,β',S,Z,Y⟩=>⟨v,ae,r,H,aa,β',Q _ _ S,Z,Y⟩
def bb(au:Bool)(P:Program)(f:FuncId)(agF:ah)(args:List U)(r:U):Prop:=cz au P f agF args (λa b=>a=r/\b=agF)
structure hl(P:Program)(T:TypeId)(n:Nat)(b5:Bool):Prop where
 size:∀w,(sizeOf T).run P w=.ok n w
 agg:∀w,(isAgg T).run P w=.ok b5 w
def jZ(b5:Bool)(n:Nat)(cs:List U):U:=bif b5 then .agg (cs.take n)else cs.headD .dH
def yc{I:a8}{β:Nat->Value}:∀(k:Nat) (cs:List U) (vs:hD),bD I β cs vs->bD I β (cs.drop k) (vs.drop k)
 |0,_,_,h=>by simpa using h
 |k+1,[],vs,h=>by simp only[bD]at h;subst h;simp[bD]
 |k+1,x::r,vs,h=>by
  simp only[bD]at h;obtain⟨c,b,rfl,_,a⟩:=h;simpa using yc k r b a
def yd{I:a8}{β:Nat->Value}:∀(k:Nat) (cs:List U) (vs:hD),bD I β cs vs->bD I β (cs.take k) (vs.take k)
 |0,_,_,_=>by simp[bD]
 |k+1,[],vs,h=>by simp only[bD]at h;subst h;simp[bD]
 |k+1,x::r,vs,h=>by
  simp only[bD]at h;obtain⟨d,b,rfl,c,a⟩:=h;simp only[List.take_succ_cons,bD];exact⟨d,_,rfl,c,yd k r b a⟩
theorem i5(b o n:Nat):Addr.add ⟨b,o,none⟩ n=⟨b,o+n,none⟩:=by
 unfold Addr.add;split<;>simp_all
variable {T:TypeId}{b:Nat}{w:World}
theorem Fq{n:Nat}{b5:Bool}(e:hl P T n b5){off:Nat}{vs:hD}(h:∀j,j<n->∃v,vs[j]?=some v/\w.cell? ⟨b,off+j,none⟩=some v)(i:b5=false->0<n):
  (loadVar T ⟨b,off,none⟩).run P w=.ok (if b5 then .agg (vs.take n).toArray else vs.headD undef) w:=by
 unfold loadVar;simp only[fD,e.agg,gQ];cases b5 with
 |true=>
  simp only[fE,fD,e.size,gQ];have:(loadCells ⟨b,off,none⟩ n).run P w=.ok (vs.take n).toArray w:=by
   have l:(vs.take n).length=n:=by
    rw[hg];rcases Nat.lt_or_ge vs.length n with f|f
    all_goals grind
   have m:=run_loadCells_list (P:=P) w ⟨b,off,none⟩ (vs.take n) (λj v a=>by
    rw[l8]at a;split at a
    .rename_i g;obtain⟨k,c,d⟩:=h j g;rw[c]at a;cases a;rw[i5];exact d
    .cases a)
   grind
  rw[this];rfl
 |false=>
  obtain⟨v,c,d⟩:=h 0 (i rfl);simp only[load];simp only[pL,h0,Sem.run];rw[show(⟨b,off,none⟩:Addr)=⟨b,off+0,none⟩from rfl,d];cases vs with
  |nil=>simp at c
  |cons x r=>simp at c;subst c;rfl
def GI{I:a8}{β:Nat->Value}:∀(xs:bX) (vs:hD),bD I β (xs.map (U.int .i64)) vs->vs=xs.map (Value.int .i64)
 |[],vs,h=>by simpa only[mO,bD]using h
 |x::r,vs,h=>by
  simp only[dr,bD]at h;obtain⟨d,b,rfl,c,a⟩:=h;rw[show d=Value.int .i64 x by simpa [aD,a1]using c,GI r b a];rfl
def CW{I:a8}{β:Nat->Value}:∀(xs:bX),bD I β (xs.map (U.int .i64)) (xs.map (Value.int .i64))
 |[]=>by simp[bD]
 |x::r=>by simp only[dr,bD];exact⟨_,_,rfl,by simp[aD,a1],CW r⟩
def GJ{xs:bX}{v:Value}:aD I β (.agg (xs.map (U.int .i64))) v↔aD I β (.arr xs) v:=by
 simp only[aD,a1];constructor
 .rintro⟨b,rfl,a⟩;rw[<-GI xs _ a]
 .rintro rfl;exact⟨_,rfl,by simpa using CW xs⟩
inductive l4(G:bI)(env:av)(σ:ah):ResultVar->U->Prop
 |tmp (t:Nat):l4 G env σ (.tmp t) (env.get t)
 |cell (a T d:Nat) (aZ n:Nat) (b5:Bool) (cs:List U) (aG:env.get a=.ptr d 0) (hd:σ.get d=some (.cells aZ cs)) (aU:hl G.P T n b5) (ay:cs.length=n) (bh:b5=false->0<n):l4 G env σ (.cell a T) (jZ b5 n cs)
 |arr (a T d:Nat) (aZ n:Nat) (xs:bX) (aG:env.get a=.ptr d 0) (hd:σ.get d=some (.vec aZ xs)) (aU:hl G.P T n true) (ay:xs.length=n):l4 G env σ (.cell a T) (.arr xs)
def zv(b:ig):ResultVar->Sem Value
 |.tmp t=>pure (b.getD t undef)
 |.cell a t=>do loadVar t (<-asAddr (b.getD a undef))
variable {aZ:TypeId}
theorem bE.box{cx:dz}(Q:bE G cx I β σ w){d:Nat}{cs:List U}(hd:σ.get d=some (.cells aZ cs))(H:bR (β d)=some b):
  ∃arr,β d=.pointer (some ⟨b,0,none⟩)/\w.heap[b]?=some (.cells arr aZ (0,0))/\bD I β cs arr.toList/\(∀o,I b o=none)/\Place cx b:=by
 have O:=Q.bY d _ hd;simp only[bl]at O;rcases O with q|⟨X,arr,S,ab,Y,Z,aa⟩
 .rw[q]at H;simp[bR]at H
 .have:X=b:=by rw[S]at H;simpa [bR]using H
  grind
def Fh{n:Nat}{b5:Bool}(g:hl P T n b5)(i:b5=false->0<n){off:Nat}{arr:ig}{cs:List U}(f:w.heap[b]?=some (.cells arr aZ (0,0)))
  (d:bD I β cs arr.toList) (p:off+n<=cs.length):∃v,(loadVar T ⟨b,off,none⟩).run P w=.ok v w/\aD I β (jZ b5 n (cs.drop off)) v:=by
 have l:=nS _ _ d
 have h:∀c,c<n->∃v,(arr.toList.drop off)[c]?=some v/\w.cell? ⟨b,off+c,none⟩=some v:=λc o=>by
  have e:off+c<arr.toList.length:=by omega
  refine⟨arr.toList[off+c],by rw[wu];exact jW e,?_⟩;simp only[World.cell?,f];simpa using jW e
 refine⟨_,Fq g h i,?_⟩;have a:=yc off _ _ d;cases b5 with
 |true=>
  simp only[jZ,cm,fE,aD];exact⟨_,rfl,by simpa using yd n _ _ a⟩
 |false=>
  simp only[jZ,bH,pL,h0];generalize cs.drop off=j at a;cases j with
  |nil=>simp[aD]
  |cons x r=>
   simp only[bD]at a;obtain⟨q,m,k,a,_⟩:=a;rw[k];exact a
def l4.run{G:bI}{env:av}{σ:ah}{r:ResultVar}{x:U}(h:l4 G env σ r x){cx:dz}{I:a8}{β:Nat->Value}{w:World}{a:Act}(ae:bE G cx I β σ w)(Y:iC I β env a):
  ∃v,aD I β x v/\(zv a.tmps r).run G.P w=.ok v w:=by
 cases h with
 |tmp t=>exact⟨_,Y t,rfl⟩
 |cell b T d aZ n b5 cs S hd X aq ar=>
  have H:=Y b;rw[S]at H;simp only[aD]at H;obtain⟨ag,O,Z⟩:=H;obtain⟨arr,ay,ak,aj,_⟩:=ae.box hd O;obtain⟨v,aa,Q⟩:=Fh X ar (off:=0) ak aj (by omega);refine⟨v,by simpa using Q,?_⟩;simp only[zv,Z,asAddr,fD,jq,gQ];exact aa
 |arr b T d aZ n xs S hd X aq=>
  have H:=Y b;rw[S]at H;simp only[aD]at H;obtain⟨ag,O,Z⟩:=H;have ab:=ae.bY d _ hd;simp only[bl]at ab;rcases ab with q|⟨am,arr,aw,ax,an,_⟩
  .rw[q]at O;cases O
  have ao:am=ag:=by rw[aw]at O;simpa [bR]using O
  subst ao;obtain⟨v,aa,Q⟩:=Fh (I:=I) (β:=β) (cs:=xs.map (U.int .i64)) X (by simp) (off:=0) ax (by rw[an];exact CW xs) (by simp;omega);refine⟨v,GJ.1 ?_,?_⟩
  .simp only[jZ,cm,List.drop_zero]at Q;rw[qt (by simp;omega)]at Q;exact Q
  .simp only[zv,Z,asAddr,fD,jq,gQ];exact aa
inductive uh(G:bI)(env:av)(σ:ah):List ResultVar->List U->Prop
 |nil:uh G env σ [] []
 |cons {r:ResultVar} {x:U} {rs:List ResultVar} {xs:List U} (h:l4 G env σ r x) (k:uh G env σ rs xs):uh G env σ (r::rs) (x::xs)
def uh.run{G:bI}{env:av}{σ:ah}{rs:List ResultVar}{xs:List U}(h:uh G env σ rs xs){cx:dz}{I:a8}{β:Nat->Value}{w:World}{a:Act}(H:bE G cx I β σ w)(Q:iC I β env a):
  ∃vs:hD,bD I β xs vs/\(rs.mapM (zv a.tmps)).run G.P w=.ok vs w/\vs.length=rs.length:=by
 induction h with
 |nil=>exact⟨[],rfl,rfl,rfl⟩
 |cons h _ S=>
  obtain⟨v,X,O⟩:=h.run H Q;obtain⟨vs,dJ,bz,cw⟩:=S;refine⟨v::vs,⟨v,vs,rfl,X,dJ⟩,?_,by simp[cw]⟩;simp[List.mapM_cons,fD,O,bz]
inductive mR(G:bI)(env:av)(σ:ah):List ResultVar->U->Prop
 |zero:mR G env σ [] (.bO [])
 |one {r:ResultVar} {x:U} (h:l4 G env σ r x):mR G env σ [r] x
 |two {r s:ResultVar} {x y:U} (h:l4 G env σ r x) (k:l4 G env σ s y):mR G env σ [r,s] (.bO [x,y])
 |three {r s t:ResultVar} {x y z:U} (h:l4 G env σ r x) (k:l4 G env σ s y) (l:l4 G env σ t z):mR G env σ [r,s,t] (.bO [x,y,z])
 |more {rs:List ResultVar} {xs:List U} (h:uh G env σ rs xs) (aA:4<=rs.length):mR G env σ rs (.bO xs)
theorem mR.run{G:bI}{env:av}{σ:ah}{fn:Func}{x:U}(h:mR G env σ fn.results.toList x){cx:dz}{I:a8}{β:Nat->Value}{w:World}{a:Act}(H:bE G cx I β σ w)(O:iC I β env a):
  ∃v,aD I β x v/\(results fn a.tmps).run G.P w=.ok v w:=by
 generalize X:fn.results.toList=l at h;have Y:fn.results=l.toArray:=by rw[<-X]
 have ab:results fn a.tmps=(do let vs <-l.toArray.mapM (zv a.tmps);pure (if h:vs.size=1 then vs[0]else .tuple vs)):=by
  unfold results;rw[Y];rfl
 rw[ab];cases h with
 |zero=>exact⟨.tuple #[],by simp[aD,bD],by simp⟩
 |one h=>
  obtain⟨v,Q,S⟩:=h.run H O;refine⟨v,Q,?_⟩;simp[List.mapM_cons,fD,S]
 |two h k=>
  obtain⟨v,Q,S⟩:=h.run H O;obtain⟨u,dJ,bz⟩:=k.run H O;refine⟨.tuple #[v,u],?_,?_⟩
  .simp only[aD];exact⟨_,rfl,v,[u],rfl,Q,u,[],rfl,dJ,rfl⟩
  .simp_all
 |three h k l=>
  obtain⟨v,Q,S⟩:=h.run H O;obtain⟨u,dJ,bz⟩:=k.run H O;obtain⟨t,aa,ae⟩:=l.run H O;refine⟨.tuple #[v,u,t],?_,?_⟩
  .simp only[aD];exact⟨_,rfl,v,[u,t],rfl,Q,u,[t],rfl,dJ,t,[],rfl,aa,rfl⟩
  .simp_all
 |more h ag=>
  obtain⟨vs,dJ,bz,cw⟩:=h.run H O;refine⟨.tuple vs.toArray,⟨vs.toArray,rfl,by simpa using dJ⟩,?_⟩;have Z:¬vs.length=1:=by omega
  simp[fD,bz,Z]
def tc:Nat->List U->av
 |_,[]=>[]
 |k,x::r=>(k,x)::tc (k+1) r
theorem KD{I:a8}{β:Nat->Value}:∀(a:List U) (vs:hD) (k t:Nat),bD I β a vs->aD I β ((tc k a).get t) (if k<=t then vs.getD (t-k) undef else undef)\/(tc k a).get t=.dH
 |[],_,_,_,_=>.inr rfl
 |x::r,vs,k,t,h=>by
  simp only[bD]at h;obtain⟨g,c,rfl,e,b⟩:=h;simp only[tc,aFr];split
  .grind
  .rename_i f;rcases KD r c (k+1) t b with d|d
   all_goals grind
def Nq(G:bI)(e:Func)(Post:U->ah->Prop):Exit->av->ah->Prop
 |.normal,env,σ|.ret,env,σ=>∃a d r b,mR G env (σ.freeze a) e.results.toList d/\gp (σ.freeze a) d r/\(∀c∈b,(σ.freeze a).get c.1=some c.2)/\Post r b
 |_,_,_=>False
theorem nX:∀(l:ah) d o,l.get d=some o->∃p∈l,p.1=d/\p.2=o:=by
 intro l;induction l with
 |nil=>intro d o a;simp[ah.get]at a
 |cons x r b=>
  intro d o a;obtain⟨c,e⟩:=x;rw[aFc]at a;split at a
  .simp_all
  .grind
theorem cz.enter{fn:Func}{c:Code}(an:P.funcs[f]?=some fn)(ab:fn.body=some c)(aI:args.length<=fn.ntmps)
  (h:wj args->ar ⟨P,fn.ntmps,agF.ids,au⟩ c (Nq ⟨P,fn.ntmps,agF.ids,au⟩ fn Post) (tc 0 args) agF):cz au P f agF args Post:=by
 intro cx w I β vs ae Q;have aH:=nS _ _ Q;have aw:bE ⟨P,fn.ntmps,agF.ids,au⟩ cx I β agF w:={ae with};refine calls_of_wp an ab ?_;refine wp_mono ((h Q.wj).use cx _ w ⟨I,β,aw,λt=>?_,?_,rfl⟩) ?_
 .rcases KD args vs 0 t Q with q|q
  .have:((vs.toArray++Array.replicate (fn.ntmps-vs.toArray.size) undef).getD t undef)=vs.getD t undef:=by
    rw[vb,Array.getElem?_append,oy]
    grind
   grind
  .rw[q];simp[aD]
 .simp;omega
 .rintro e Y w' ⟨aA,H,⟨S,β',aB,aq,aJ,aC⟩,O⟩
  have aa:(∃bL x r σ2,mR ⟨P,fn.ntmps,agF.ids,au⟩ aA (H.freeze bL) fn.results.toList x/\gp (H.freeze bL) x r/\(∀p∈σ2,(H.freeze bL).get p.1=some p.2)/\Post r σ2)->
    Y.defers=[]/\∃v,(results fn Y.tmps).run P w'=.ok v w'/\(∃Z,Ending.returned v=.returned Z/\∃r H S β',Post r H/\aD S β' r Z/\bE ⟨P,0,agF.ids,au⟩ cx S β' H w'):=by
   rintro⟨bL,x,r,σ2,ag,am,aj,ak⟩;obtain⟨aE,bt,X⟩:=aB.Cm bL;obtain⟨v,aG,ax⟩:=ag.run X (aq.mono bt (fQ.refl _));refine⟨aC,v,ax,v,rfl,r,σ2,aE,β',ak,am.rep X _ aG,?_⟩
   have:=X.sub (σ2:=σ2) λd o hd=>by
    obtain⟨p,ay,az,ao⟩:=nX σ2 d o hd;rw[<-az,<-ao];exact aj p ay
   exact{this with}
  cases e with
  |normal=>exact aa O
  |ret=>exact aa O
  |exit _=>exact O.elim
  |goto _=>exact O.elim
  |panic _=>exact O.elim
  |outgrown=>exact O.elim
end
section
def Yields.pure{G:bI}{o:Oper}{ev:Operand->U}{σ:ah}{R:cR}{bN:U}
  (h:∀(H:ah) (cx:dz) (I:a8) (β:Nat->Value) (w:World) (O:Operand->Value),(∀d∈R,H.get d=σ.get d)->bE G cx I β H w->(∀x∈o.op.operands,aD I β (ev x) (O x))->
   ∃v,(execOp O o).run G.P w=.ok (.value v) w/\aD I β bN v):Yields G o ev σ [] R bN:=by
 intro H cx I β w O Z Q _ Y;obtain⟨v,X,S⟩:=h H cx I β w O Z Q Y;rw[X];exact⟨I,β,S,Q,b1.refl I,λ_ _=>rfl⟩
theorem aHt{G:bI}{o:Oper}{ev:Operand->U}{σ:ah}{R:cR}{bN:U}(h:Yields G o ev σ [] R bN):fO G o ev σ [] [] (λa c=>a=bN/\c=σ):=by
 intro f I j i e b d;have:=h σ f I j i e (λ_ _=>rfl) b (λk g=>by simp at g) d
 grind
section steps
variable {G:bI}{ops:jB}{s:jA}{log:List (Nat×cR)}{i:Nat}{l:cR}{env:av}{σ:ah}{K:av->ah->Prop}{o:Oper}{bN:U}
def g7.n(H:o.guard=none):g7 ops o env:=by unfold g7;rw[H];trivial
def g7.g{j:Nat}{want p:Bool}{di:Oper}{H:Nat}(S:o.guard=some (j,want))(Q:ops[j]?=some di)(hd:di.dst=some H)(X:env.get H=.bool p)(O:p=want):g7 ops o env:=by
 unfold g7;rw[S];exact⟨di,H,Q,hd,by rw[X,O]⟩
def iW.g{j:Nat}{want p:Bool}{di:Oper}{H:Nat}(S:o.guard=some (j,want))(Q:ops[j]?=some di)(hd:di.dst=some H)(X:env.get H=.bool p)(O:p=!want):iW ops o env:=by
 unfold iW;rw[S];exact⟨di,H,Q,hd,.inl (by rw[X,O])⟩
def iW.undef{j:Nat}{want:Bool}{di:Oper}{H:Nat}(Q:o.guard=some (j,want))(O:ops[j]?=some di)(hd:di.dst=some H)(S:env.get H=.undef):iW ops o env:=by
 unfold iW;rw[Q];exact⟨di,H,O,hd,.inr S⟩
def lP(s:jA)(i:Nat):Bool:=!(s.dY&&s.es.contains i)
def qP(s:jA)(i:Nat):Bool:=!s.dY||s.es.contains i
def Gm(h:lP s i=true):s.dY=true->i∉s.es:=λa=>by simpa [lP,a]using h
def Mq(h:qP s i=true):s.dY=true->i∈s.es:=λa=>by simpa [qP,a]using h
def HS(σ:ah)(R:cR):Bool:=R.all λa=>(σ.get a).isSome
def WN{R:cR}(h:HS σ R=true):∀d∈R,(σ.get d).isSome:=λd a=>gE.1 h d a
def C.y{R:cR}(H:ops[i]?=some o)(O:g7 ops o env)(Q:lP s i=true)(S:HS σ R=true)(X:Yields G o env.ev σ [] R bN)
  (k:hQ G ops s ((i,R)::log) l (env.put o.dst bN) σ K):hQ G ops s log (i::l) env σ K:=
 ⟨o,H,.inr (.inl ⟨O,Gm Q,[],R,bN,σ,aFK G σ env,WN S,λd hd=>by simp at hd,X,k⟩)⟩
def C.skip(H:ops[i]?=some o)(O:iW ops o env)(Q:lP s i=true)(k:hQ G ops s ((i,[])::log) l (env.put o.dst .undef) σ K):hQ G ops s log (i::l) env σ K:=
 ⟨o,H,.inl ⟨O,Gm Q,k⟩⟩
def C.Sh(H:ops[i]?=some o)(O:iW ops o env)(Q:qP s i=true)(k:hQ G ops s log l (env.put o.dst .undef) σ K):hQ G ops s log (i::l) env σ K:=
 ⟨o,H,.inr (.inr (.inr ⟨O,Mq Q,k⟩))⟩
def C.v{d:Nat}{O:b4}(Q:ops[i]?=some o)(S:g7 ops o env)(X:lP s i=true)(hi:G.ids.contains d=false)(ab:env.clean [d].contains=true)(Z:σ.clean [d].contains=true)(Y:HZ O=true)
  (aa:Yields G o env.ev ((d,O)::σ) [d] [d] bN) (k:hQ G ops s ((i,[d])::log) l (env.put o.dst bN) ((d,O)::σ) K):hQ G ops s log (i::l) env σ K:=
 ⟨o,Q,.inr (.inl ⟨S,Gm X,[d],[d],bN,(d,O)::σ,⟨λx H=>by rw[aFc,bw (λe=>H (by simp[e]))],λx H=>by simp at H;subst H;simpa using hi,ab,Z,λx H o h=>by simp at H;subst H;rw[aFc,bx rfl]at h;cases h;exact Y⟩,
  λx H=>by simp at H;subst H;simp[aFc],λx H=>H,aa,k⟩)⟩
def C.e{M news:cR}{Φ:U->ah->Prop}(Q:ops[i]?=some o)(S:g7 ops o env)(X:qP s i=true)(Y:fO G o env.ev σ M news Φ)(O:(!s.dY||o8 s i M log)=true)
  (Z:env.clean news.contains=true) (aa:news.all (λd=>!G.ids.contains d&&(σ.get d).isNone)=true) (k:∀bN H,Φ bN H->hQ G ops s log l (env.put o.dst bN) H K):hQ G ops s log (i::l) env σ K:=
 ⟨o,Q,.inr (.inr (.inl ⟨S,Mq X,M,news,Φ,Y,λhd=>by simpa [hd]using O,Z,λd hd=>by
  have:=gE.1 aa d hd;simpa using this,k⟩))⟩
def C.jF{R:cR}(H:ops[i]?=some o)(O:g7 ops o env)(S:qP s i=true)(X:Yields G o env.ev σ [] R bN)(k:hQ G ops s log l (env.put o.dst bN) σ K):hQ G ops s log (i::l) env σ K:=by
 have Y:∀log:List (Nat×cR),o8 s i [] log=true:=by
  intro log;induction log with
  |nil=>rfl
  |cons x r Z=>obtain⟨k,R⟩:=x;simp[o8,Z]
 exact C.e H O S (aHt X) (by simp[Y]) (aFN env) rfl (λa ab ⟨aa,Q⟩=>by subst aa Q;exact k)
def C.nil(k:K env σ):hQ G ops s log [] env σ K:=k
end steps
section ops
variable {G:bI}{o:Oper}{ev:Operand->U}{σ:ah}
def bB.move{x:Operand}(h:o.op=.move x):Yields G o ev σ [] [] (ev x):=
 .pure λ_ _ _ _ w O _ _ H=>⟨O x,by simp[execOp,h],H x (by simp[h,Op.operands])⟩
def bB.assign{x:Operand}(h:o.op=.assign x):Yields G o ev σ [] [] (ev x):=
 .pure λ_ _ _ _ w O _ _ H=>⟨O x,by simp[execOp,h],H x (by simp[h,Op.operands])⟩
variable {I:a8}{b:Bool}
def sY{β:Nat->Value}{v:Value}(h:aD I β (.bool b) v):v=.bool b:=by simpa [aD,a1]using h
def g1{β:Nat->Value}{k:IntKind}{n:Int}{v:Value}(h:aD I β (.int k n) v):v=.int k n:=by simpa [aD,a1]using h
def Nr{β:Nat->Value}{s:ByteArray}{v:Value}(h:aD I β (.str s) v):v=.string s:=by simpa [aD,a1]using h
def bB.pick{c a b:Operand}{p:Bool}(h:o.op=.pick c a b)(S:ev c=.bool p):Yields G o ev σ [] [] (bif p then ev a else ev b):=
 .pure λ_ _ I β w Q _ _ O=>by
  have H:=O c (by simp[h,Op.operands]);rw[S]at H
  have H:=sY H;refine⟨if p then Q a else Q b,by simp[execOp,h,H,asBool],?_⟩;cases p
  .exact O b (by simp[h,Op.operands])
  .exact O a (by simp[h,Op.operands])
def aG9{c a b:Operand}{p:Bool}(h:o.op=.pick c a b)(e:ev c=.bool p)(d:p=true):Yields G o ev σ [] [] (ev a):=by
 have:=bB.pick (G:=G) (σ:=σ) h e;rw[d]at this;exact this
def aHa{c a b:Operand}{p:Bool}(h:o.op=.pick c a b)(e:ev c=.bool p)(d:p=false):Yields G o ev σ [] [] (ev b):=by
 have:=bB.pick (G:=G) (σ:=σ) h e;rw[d]at this;exact this
def DZ(k:IntKind)(n:Int):Prop:=k.wrap n=n
section ints
variable {op:BinOp}{T aZ:TypeId}{x y:Operand}{k:IntKind}{m n:Int}
def bB.int(h:o.op=.binOp op T x y aZ)(X:ev x=.int k m)(Y:ev y=.int k n){r:Value}{bN:U}(Q:op≠.shl/\op≠.shr)
  (S:∀w,(match op with|.add|.sub|.mul=>Op.intArith op k m n|.quo|.rem=>Op.intDiv op k m n|.and|.or|.xor|.andNot=>Op.intBits op k m n|_=>Op.intCmp op m n:Sem Value).run G.P w=.ok r w)
  (Z:∀I β,aD I β bN r):Yields G o ev σ [] [] bN:=
 .pure λ_ _ I β w ae _ _ hop=>by
  have O:=hop x (by simp[h,Op.operands]);rw[X]at O;have O:=g1 O
  have H:=hop y (by simp[h,Op.operands]);rw[Y]at H;have H:=g1 H
  refine⟨r,?_,Z I β⟩;have aa:(eqGuard op T x y (.int k m) (.int k n)).run G.P w=.ok () w:=by
   unfold eqGuard;cases op<;>rfl
  have ab:(binOp op T (.int k m) (.int k n)).run G.P w=.ok r w:=by
   rw[<-S w];cases op<;>first|exact absurd rfl Q.1|exact absurd rfl Q.2|simp[binOp]
  simp[execOp,h,O,H,aa,ab]
def bB.lss(h:o.op=.binOp .lss T x y aZ)(H:ev x=.int k m)(O:ev y=.int k n):Yields G o ev σ [] [] (.bool (decide (m<n))):=
 bB.int h H O (by decide) (λw=>rfl) (λ_ _=>by simp[aD,a1])
def bB.leq(h:o.op=.binOp .leq T x y aZ)(H:ev x=.int k m)(O:ev y=.int k n):Yields G o ev σ [] [] (.bool (decide (m<=n))):=
 bB.int h H O (by decide) (λw=>rfl) (λ_ _=>by simp[aD,a1])
def bB.gtr(h:o.op=.binOp .gtr T x y aZ)(H:ev x=.int k m)(O:ev y=.int k n):Yields G o ev σ [] [] (.bool (decide (n<m))):=
 bB.int h H O (by decide) (λw=>rfl) (λ_ _=>by simp[aD,a1])
def bB.geq(h:o.op=.binOp .geq T x y aZ)(H:ev x=.int k m)(O:ev y=.int k n):Yields G o ev σ [] [] (.bool (decide (n<=m))):=
 bB.int h H O (by decide) (λw=>rfl) (λ_ _=>by simp[aD,a1])
def bB.eql(h:o.op=.binOp .eql T x y aZ)(H:ev x=.int k m)(O:ev y=.int k n):Yields G o ev σ [] [] (.bool (decide (m=n))):=
 bB.int h H O (by decide) (λw=>rfl) (λ_ _=>by simp only[aD,a1,Value.bool.injEq];rw[ns];simp)
def bB.neq(h:o.op=.binOp .neq T x y aZ)(H:ev x=.int k m)(O:ev y=.int k n):Yields G o ev σ [] [] (.bool (!decide (m=n))):=
 bB.int h H O (by decide) (λw=>rfl) (λ_ _=>by simp only[aD,a1,Value.bool.injEq];rw[ns];simp)
def aHd(h:o.op=.binOp .add T x y aZ)(a:ev x=.int k m)(b:ev y=.int k n):Yields G o ev σ [] [] (.int k (k.wrap (m+n))):=
 bB.int h a b (by decide) (λc=>rfl) (λ_ _=>by simp only[aD,a1])
def aGN(h:o.op=.binOp .sub T x y aZ)(a:ev x=.int k m)(b:ev y=.int k n):Yields G o ev σ [] [] (.int k (k.wrap (m-n))):=
 bB.int h a b (by decide) (λc=>rfl) (λ_ _=>by simp only[aD,a1])
def aGL(h:o.op=.binOp .mul T x y aZ)(a:ev x=.int k m)(b:ev y=.int k n):Yields G o ev σ [] [] (.int k (k.wrap (m*n))):=
 bB.int h a b (by decide) (λc=>rfl) (λ_ _=>by simp only[aD,a1])
def bB.rem(h:o.op=.binOp .rem T x y aZ)(H:ev x=.int k m)(O:ev y=.int k n)(Q:n≠0):Yields G o ev σ [] [] (.int k (m.tmod n)):=
 bB.int h H O (by decide) (λw=>by simp[Op.intDiv,Q];rfl) (λ_ _=>by simp only[aD,a1])
def bT(op:BinOp)(k:IntKind)(m n:Int):Int:=
 let a:=BitVec.ofInt k.bits m
 let b:=BitVec.ofInt k.bits n
 match op with
 |.and=>k.wrap (a &&& b).toNat
 |.or=>k.wrap (a ||| b).toNat
 |.xor=>k.wrap (a ^^^ b).toNat
 |.andNot=>k.wrap (a &&& ~~~b).toNat
 |_=>0
def bB.and(h:o.op=.binOp .and T x y aZ)(H:ev x=.int k m)(O:ev y=.int k n):Yields G o ev σ [] [] (.int k (bT .and k m n)):=
 bB.int h H O (by decide) (λw=>rfl) (λ_ _=>by simp[aD,a1,bT])
def bB.or(h:o.op=.binOp .or T x y aZ)(H:ev x=.int k m)(O:ev y=.int k n):Yields G o ev σ [] [] (.int k (bT .or k m n)):=
 bB.int h H O (by decide) (λw=>rfl) (λ_ _=>by simp[aD,a1,bT])
def bB.xor(h:o.op=.binOp .xor T x y aZ)(H:ev x=.int k m)(O:ev y=.int k n):Yields G o ev σ [] [] (.int k (bT .xor k m n)):=
 bB.int h H O (by decide) (λw=>rfl) (λ_ _=>by simp[aD,a1,bT])
def bB.andNot(h:o.op=.binOp .andNot T x y aZ)(H:ev x=.int k m)(O:ev y=.int k n):Yields G o ev σ [] [] (.int k (bT .andNot k m n)):=
 bB.int h H O (by decide) (λw=>rfl) (λ_ _=>by simp[aD,a1,bT])
def bB.shift{Z:IntKind}(hop:op=.shl\/op=.shr)(h:o.op=.binOp op T x y aZ)(X:ev x=.int k m)(Y:ev y=.int Z n)(ab:0<=n):
  Yields G o ev σ [] [] (.int k (match op with|.shl=>k.wrap (m*2 ^ min n.toNat k.bits)|_=>m.fdiv (2 ^ min n.toNat k.bits))):=
 .pure λ_ _ I β w aa _ _ S=>by
  have O:=S x (by simp[h,Op.operands]);rw[X]at O;have O:=g1 O
  have H:=S y (by simp[h,Op.operands]);rw[Y]at H;have H:=g1 H
  have Q:¬n<0:=by omega
  rcases hop with rfl|rfl
  .refine⟨_,by simp[execOp,h,O,H,eqGuard,binOp,Op.shift,Q];rfl,by simp[aD,a1]⟩
  .refine⟨_,by simp[execOp,h,O,H,eqGuard,binOp,Op.shift,Q];rfl,by simp[aD,a1]⟩
end ints
def bB.not{T:TypeId}{x:Operand}{b:Bool}(h:o.op=.unOp .not T x)(O:ev x=.bool b):Yields G o ev σ [] [] (.bool (!b)):=
 .pure λ_ _ I β w Q _ _ hop=>by
  have H:=hop x (by simp[h,Op.operands]);rw[O]at H;have H:=sY H
  exact⟨.bool (!b),by simp[execOp,h,H,Op.unary],by simp[aD,a1]⟩
def bB.convert{T aZ:TypeId}{x:Operand}{k H:IntKind}{n:Int}(h:o.op=.convert T aZ x)(S:ev x=.int k n)(Q:∃d,G.P.underlying T=some d)(X:G.P.underlying aZ=some (.int H)):Yields G o ev σ [] [] (.int H (H.wrap n)):=
 .pure λ_ _ I β w aa _ _ hop=>by
  have O:=hop x (by simp[h,Op.operands]);rw[S]at O;have O:=g1 O
  obtain⟨d,hd⟩:=Q;have Y:∀w,(underlying T).run G.P w=.ok d w:=λw=>by simp[underlying,program,Sem.run,hd]
  have Z:∀w,(underlying aZ).run G.P w=.ok (.int H) w:=λw=>by simp[underlying,program,Sem.run,X]
  refine⟨.int H (H.wrap n),?_,by simp[aD,a1]⟩;simp only[execOp,h,O];unfold Go.convert;simp only[fD,Y,Z,gQ];cases d<;>rfl
variable {P:Program}
def Kc(op:BinOp)(t:TypeId)(x y:Operand)(a b:Bool)(w:World):(eqGuard op t x y (.bool a) (.bool b)).run P w=.ok () w:=by
 unfold eqGuard;cases op<;>rfl
def Vi(T:TypeId)(a b:Bool)(w:World)(c:P.underlying T=some .bool):(binOp .eql T (.bool a) (.bool b)).run P w=.ok (.bool (a==b)) w:=by
 show(do pure (.bool (<-Op.equal T (.bool a) (.bool b))):Sem Value).run P w=_;rw[fD,run_equal_bool w T a b c];rfl
def Vj(T:TypeId)(a b:Bool)(w:World)(c:P.underlying T=some .bool):(binOp .neq T (.bool a) (.bool b)).run P w=.ok (.bool (!(a==b))) w:=by
 show(do pure (.bool (!(<-Op.equal T (.bool a) (.bool b)))):Sem Value).run P w=_;rw[fD,run_equal_bool w T a b c];rfl
def aGw{T aZ:TypeId}{x y:Operand}{a:Bool}(h:o.op=.binOp .eql T x y aZ)(g:ev x=.bool a)(i:ev y=.bool b)(f:G.P.underlying T=some .bool):Yields G o ev σ [] [] (.bool (a==b)):=
 .pure λ_ _ I l j k _ _ e=>by
  have d:=e x (by simp[h,Op.operands]);rw[g]at d;have d:=sY d
  have c:=e y (by simp[h,Op.operands]);rw[i]at c;have c:=sY c
  exact⟨.bool (a==b),by simp only[execOp,h,d,c,fD,Kc,Vi T a b j f,gQ,jq],by simp[aD,a1]⟩
def aGx{T aZ:TypeId}{x y:Operand}{a:Bool}(h:o.op=.binOp .neq T x y aZ)(g:ev x=.bool a)(i:ev y=.bool b)(f:G.P.underlying T=some .bool):Yields G o ev σ [] [] (.bool (!(a==b))):=
 .pure λ_ _ I l j k _ _ e=>by
  have d:=e x (by simp[h,Op.operands]);rw[g]at d;have d:=sY d
  have c:=e y (by simp[h,Op.operands]);rw[i]at c;have c:=sY c
  exact⟨.bool (!(a==b)),by simp only[execOp,h,d,c,fD,Kc,Vj T a b j f,gQ,jq],by simp[aD,a1]⟩
mutual
def valOf:U->Value
 |.int k n=>.int k n
 |.bool b=>.bool b
 |.str s=>.string s
 |.agg cs=>.agg (CY cs).toArray
 |_=>undef
def CY:List U->hD
 |[]=>[]
 |x::r=>valOf x::CY r
end
mutual
def U.plain:U->Bool
 |.int _ _=>true
 |.bool _=>true
 |.str _=>true
 |.agg cs=>CZ cs
 |_=>false
def CZ:List U->Bool
 |[]=>true
 |x::r=>x.plain&&CZ r
end
mutual
def yy{I:a8}{β:Nat->Value}:∀(a:U) (v:Value),a.plain=true->aD I β a v->v=valOf a
 |.int k n,v,_,d=>g1 d
 |.bool b,v,_,d=>sY d
 |.str s,v,_,d=>Nr d
 |.agg cs,v,c,d=>by
  simp only[aD]at d;obtain⟨e,rfl,d⟩:=d;simp only[valOf,<-K1 cs e.toList (by simpa [U.plain]using c) d]
 |.dH,_,c,_|.undef,_,c,_|.bn _ _,_,c,_|.dI _,_,c,_|.bO _,_,c,_|.fn _ _,_,c,_|.aF,_,c,_|.gT,_,c,_|.own _,_,c,_|.ptr _ _,_,c,_|.cc _,_,c,_|.cD _ _,_,c,_|.gj,_,c,_|.iY _,_,c,_|.cU _ _,_,c,_=>by simp[U.plain]at c
def K1{I:a8}{β:Nat->Value}:∀(a:List U) (v:hD),CZ a=true->bD I β a v->v=CY a
 |[],v,_,h=>h
 |x::r,v,b,h=>by
  simp only[bD]at h;simp only[CZ,b9]at b;obtain⟨f,d,rfl,e,c⟩:=h;simp only[CY,<-yy x f b.1 e,<-K1 r d b.2 c]
end
variable {r:Bool}
def aGD{T aZ:TypeId}{x y:Operand}{a b:U}(h:o.op=.binOp .eql T x y aZ)(f:ev x=a)(g:ev y=b)(i:a.plain=true)(k:b.plain=true)(j:∀w,(do eqGuard .eql T x y (valOf a) (valOf b);binOp .eql T (valOf a) (valOf b):Sem Value).run G.P w=.ok (.bool r) w):
  Yields G o ev σ [] [] (.bool r):=
 .pure λ_ _ I m w l _ _ e=>by
  have d:=e x (by simp[h,Op.operands]);rw[f]at d;have d:=yy a _ i d
  have c:=e y (by simp[h,Op.operands]);rw[g]at c;have c:=yy b _ k c
  refine⟨.bool r,?_,by simp[aD,a1]⟩;have:=j w;simp only[execOp,h,d,c];rw[fD,this];rfl
def aGF{T aZ:TypeId}{x y:Operand}{a b:U}(h:o.op=.binOp .neq T x y aZ)(f:ev x=a)(g:ev y=b)(i:a.plain=true)(k:b.plain=true)(j:∀w,(do eqGuard .neq T x y (valOf a) (valOf b);binOp .neq T (valOf a) (valOf b):Sem Value).run G.P w=.ok (.bool r) w):
  Yields G o ev σ [] [] (.bool r):=
 .pure λ_ _ I m w l _ _ e=>by
  have d:=e x (by simp[h,Op.operands]);rw[f]at d;have d:=yy a _ i d
  have c:=e y (by simp[h,Op.operands]);rw[g]at c;have c:=yy b _ k c
  refine⟨.bool r,?_,by simp[aD,a1]⟩;have:=j w;simp only[execOp,h,d,c];rw[fD,this];rfl
structure zX(P:Program)(T:TypeId)(f off:Nat):Prop where
 run:∀(a:Addr) w,(Instr.fieldAt T (.pointer (some a)) f).run P w=.ok (.pointer (some (a.add off))) w
def KE{I:a8}{b:Nat}:∀(k:Nat) (cs:List U) (o:Nat),iw I b cs o->iw I b (cs.drop k) (o+k)
 |0,cs,o,h=>by simpa using h
 |k+1,[],o,h=>by simp[iw]
 |k+1,x::r,o,h=>by
  simp only[iw]at h;have:=KE k r (o+1) h.2;simpa [show o+1+k=o+(k+1)from by omega]using this
def aGy{T:TypeId}{x:Operand}{f off d p:Nat}(h:o.op=.fieldAddr T x f)(c:ev x=.ptr d p)(g:zX G.P T f off):Yields G o ev σ [] [] (.ptr d (p+off)):=
 .pure λ_ _ I l k j _ _ i=>by
  have a:=i x (by simp[h,Op.operands]);rw[c]at a
  simp only[aD]at a;obtain⟨b,a,e⟩:=a;refine⟨.pointer (some ⟨b,p+off,none⟩),?_,by simp only[aD];exact⟨b,a,rfl⟩⟩;simp[execOp,h,e,g.run,i5]
def aGz{T:TypeId}{x:Operand}{f off:Nat}{cs:List U}(h:o.op=.fieldAddr T x f)(d:ev x=.dI cs)(g:zX G.P T f off):Yields G o ev σ [] [] (.dI (cs.drop off)):=
 .pure λ_ _ I l k j _ _ i=>by
  have a:=i x (by simp[h,Op.operands]);rw[d]at a
  simp only[aD,a1]at a;obtain⟨b,c,a,e⟩:=a;refine⟨.pointer (some ⟨b,c+off,none⟩),?_,by simp only[aD,a1];exact⟨b,c+off,rfl,KE off cs c e⟩⟩;simp[execOp,h,a,g.run,i5]
def FM{I:a8}{b:Nat}{w:World}(d:∀b (o:Nat) v,I b o=some v->w.cell? ⟨b,o,none⟩=some v):∀(cs:List U) (o:Nat),iw I b cs o->
  ∃vs:hD,bP I cs vs/\∀j v,vs[j]?=some v->w.cell? ⟨b,o+j,none⟩=some v
 |[],o,_=>⟨[],rfl,λj v a=>by simp at a⟩
 |x::r,o,a=>by
  simp only[iw]at a;obtain⟨⟨e,k,f⟩,g⟩:=a;obtain⟨vs,h,i⟩:=FM d r (o+1) g;refine⟨e::vs,⟨e,vs,rfl,f,h⟩,λj v c=>?_⟩;cases j with
  |zero=>simp at c;subst c;exact d _ _ _ k
  |succ j=>
   have:=i j v (by simpa using c)
   rwa [show o+(j+1)=o+1+j from by omega]
mutual
def a1.rep{I:a8}(β:Nat->Value):∀(a:U) (v:Value),a1 I a v->aD I β a v
 |.dH,_,_=>by simp[aD]
 |.undef,_,h|.int _ _,_,h|.bool _,_,h|.str _,_,h|.bn _ _,_,h|.dI _,_,h|.aF,_,h|.gT,_,h|.cD _ _,_,h|.gj,_,h|.iY _,_,h|.dK _,_,h|.gr _,_,h|.arr _,_,h=>by simpa only[aD]using h
 |.agg cs,v,h=>by
  simp only[a1,aD]at h ⊢;obtain⟨vs,O,H⟩:=h;exact⟨vs,O,bP.rep β cs _ H⟩
 |.bO cs,v,h=>by
  simp only[a1,aD]at h ⊢;obtain⟨vs,O,H⟩:=h;exact⟨vs,O,bP.rep β cs _ H⟩
 |.fn f cs,v,h=>by
  simp only[a1,aD]at h ⊢;obtain⟨vs,O,H⟩:=h;exact⟨vs,O,bP.rep β cs _ H⟩
 |.own _,_,h=>by simp[a1]at h
 |.ptr _ _,_,h=>by simp[a1]at h
 |.cU _ _,_,h=>by simp[a1]at h
 |.cc _,_,h=>by simp[a1]at h
def bP.rep{I:a8}(β:Nat->Value):∀(a:List U) (v:hD),bP I a v->bD I β a v
 |[],_,h=>h
 |x::r,v,h=>by
  simp only[bP,bD]at h ⊢;obtain⟨u,H,S,O,Q⟩:=h;exact⟨u,H,S,a1.rep β x u O,bP.rep β r H Q⟩
end
variable {b5:Bool}
def aFX{T aZ:TypeId}{x:Operand}{n d p:Nat}{cs:List U}(h:o.op=.load T x)(f:ev x=.ptr d p)(t:σ.get d=some (.cells aZ cs))(c:hl G.P T n b5)(r:(b5||Nat.blt 0 n)=true)(q:Nat.ble (p+n) cs.length=true):
  Yields G o ev σ [] [d] (jZ b5 n (cs.drop p)):=
 .pure λy B I D C z l e u=>by
  have a:=u x (by simp[h,Op.operands]);rw[f]at a
  simp only[aD]at a;obtain⟨b,a,g⟩:=a;obtain⟨A,w,j,i,_⟩:=e.box (by rw[l d (by simp)];exact t) a;obtain⟨v,m,k⟩:=Fh c (λs=>by subst s;simpa using r) (off:=p) j i (by simpa using q);exact⟨v,by simp[execOp,h,g,Instr.loadAt,Instr.sureAddr,m],k⟩
def aG4{T:TypeId}{x:Operand}{n:Nat}{cs:List U}(h:o.op=.load T x)(q:ev x=.dI cs)(m:hl G.P T n b5)(v:(b5||Nat.blt 0 n)=true)(j:Nat.ble n cs.length=true):
  Yields G o ev σ [] [] (jZ b5 n cs):=
 .pure λB H I z y E F p w=>by
  have c:=w x (by simp[h,Op.operands]);rw[q]at c
  simp only[aD,a1]at c;obtain⟨b,k,c,s⟩:=c;obtain⟨f,g,t⟩:=FM p.good cs k s;have A:=jG _ _ g;have j:n<=cs.length:=by simpa using j
  have u:∀a,a<n->∃l,f[a]?=some l/\y.cell? ⟨b,k+a,none⟩=some l:=λa D=>by
   have i:a<f.length:=by omega
   exact⟨f[a],jW i,t a _ (jW i)⟩
  refine⟨_,by simp only[execOp,h,c,Instr.loadAt,Instr.sureAddr,fD,jq,gQ,Fq m u (λe=>by subst e;simpa using v)];rfl,?_⟩;have d:=bP.rep z _ _ g;cases b5 with
  |true=>
   simp only[jZ,cm,fE,aD];exact⟨_,rfl,by simpa using yd n _ _ d⟩
  |false=>
   simp only[jZ,bH,pL,h0];cases cs with
   |nil=>simp[aD]
   |cons x r=>
    simp only[bD]at d;obtain⟨J,C,e,d,_⟩:=d;rw[e];exact d
structure lJ(P:Program)(T E n:Nat):Prop where
 fz:P.underlying T=some (.slice E)
 size:∀w,(sizeOf E).run P w=.ok n w
def K2{I:a8}{b sz:Nat}:∀(xs:List (List U)) (o i:Nat),(∀e∈xs,e.length=sz)->fT I b xs o->i<xs.length->iw I b (xs.getD i []) (o+i*sz)
 |[],_,_,_,_,h=>by simp at h
 |e::r,o,0,_,h,_=>by simp only[fT]at h;simpa using h.1
 |e::r,o,i+1,a,h,g=>by
  simp only[fT]at h;have f:=a e (by simp);have:=K2 r (o+e.length) i (λx c=>a x (by simp[c])) h.2 (by simpa using g);rw[f]at this;have d:o+sz+i*sz=o+(i+1)*sz:=by rw[ha,qv];omega
  rw[d]at this;simpa using this
variable {α:Type}
def aGb{T E:Nat}{x:Operand}{f:Bool}{rs:List α}{enc:α->List U}{k}(h:o.op=.call ⟨.builtin .len,#[x],k⟩)(g:k=#[T])(d:ev x=.bn f (rs.map enc))(c:G.P.underlying T=some (.slice E)):Yields G o ev σ [] [] (.int .i64 (rs.length:Int)):=
 .pure λm r I s b n p l i=>by
  subst g;have a:=i x (by simp[h,Op.operands,Call.operands]);rw[d]at a
  simp only[aD,a1,iO]at a;obtain⟨j,q,a,_⟩:=a;have e:∀b,(underlying T).run G.P b=.ok (.slice E) b:=λb=>by simp[underlying,program,Sem.run,c]
  exact⟨.int .i64 rs.length,by simp[execOp,h,resolve,invoke,builtin,Builtin.len_,a,e,goInt],by simp[aD,a1]⟩
def aGH{T E:Nat}{x:Operand}{k}(h:o.op=.call ⟨.builtin .len,#[x],k⟩)(f:k=#[T])(d:ev x=.aF)(c:G.P.underlying T=some (.slice E)):Yields G o ev σ [] [] (.int .i64 0):=
 .pure λj n I p a l m i g=>by
  subst f;have b:=g x (by simp[h,Op.operands,Call.operands]);rw[d]at b
  simp only[aD,a1]at b;have e:∀a,(underlying T).run G.P a=.ok (.slice E) a:=λa=>by simp[underlying,program,Sem.run,c]
  exact⟨.int .i64 0,by simp[execOp,h,resolve,invoke,builtin,Builtin.len_,b,e,goInt],by simp[aD,a1]⟩
def aGI{T:Nat}{x:Operand}{s:ByteArray}{k}(h:o.op=.call ⟨.builtin .len,#[x],k⟩)(f:k=#[T])(d:ev x=.str s)(c:G.P.underlying T=some .string):Yields G o ev σ [] [] (.int .i64 (s.size:Int)):=
 .pure λj n I p b l m i g=>by
  subst f;have a:=g x (by simp[h,Op.operands,Call.operands]);rw[d]at a;have a:=Nr a
  have e:∀b,(underlying T).run G.P b=.ok .string b:=λb=>by simp[underlying,program,Sem.run,c]
  exact⟨.int .i64 s.size,by simp[execOp,h,resolve,invoke,builtin,Builtin.len_,a,e,goInt],by simp[aD,a1]⟩
variable {bL:Bool}
theorem K3{G:bI}{cx:dz}{β:Nat->Value}{σ:ah}{w:World}(h:bE G cx I β σ w){d:Nat}{T sz k:Nat}{xs:List (List U)}(i:σ.get d=some (.slice T sz xs k bL)){v:Value}(f:aD I β (.own d) v):
  ∃a c,v=.slice a xs.length c/\xs.length<=c/\c<=maxLen:=by
 simp only[aD]at f;obtain⟨rfl,g⟩:=f;have:=h.bY d _ i;simp only[bl]at this;rcases this with e|⟨e,rfl,_⟩|⟨b,aY,m,e,j,l,_⟩
 .rw[e]at g;simp[gU]at g
 .grind
 .grind
def aG3{T E:Nat}{x:Operand}{d aZ sz n:Nat}{rs:List α}{enc:α->List U}{k}(h:o.op=.call ⟨.builtin .len,#[x],k⟩)(l:k=#[T])(f:ev x=.own d)(j:σ.get d=some (.slice aZ sz (rs.map enc) n bL))(c:G.P.underlying T=some (.slice E)):Yields G o ev σ [] [d] (.int .i64 (rs.length:Int)):=
 .pure λq t I u b r g e m=>by
  subst l;have a:=m x (by simp[h,Op.operands,Call.operands]);rw[f]at a
  obtain⟨p,s,a,_⟩:=K3 e (by rw[g d (by simp)];exact j) a;have i:∀b,(underlying T).run G.P b=.ok (.slice E) b:=λb=>by simp[underlying,program,Sem.run,c]
  exact⟨.int .i64 rs.length,by simp[execOp,h,resolve,invoke,builtin,Builtin.len_,a,i,goInt],by simp[aD,a1]⟩
def Cx{I:a8}{β:Nat->Value}:∀{xs:List U} {vs:hD} {j:Nat} {a:U},bD I β xs vs->xs[j]?=some a->∃v,vs[j]?=some v/\aD I β a v
 |[],_,_,_,_,h=>by simp at h
 |x::r,vs,0,a,h,b=>by
  simp only[bD]at h;obtain⟨c,f,rfl,i,_⟩:=h;simp at b;subst b
  exact⟨c,by simp,i⟩
 |x::r,vs,j+1,a,h,b=>by
  simp only[bD]at h;obtain⟨c,f,rfl,_,d⟩:=h;obtain⟨v,e,g⟩:=Cx d (by simpa using b);exact⟨v,by simpa using e,g⟩
def bB.extract{x:Operand}{j:Nat}{vs:List U}{a:U}(h:o.op=.extract x j)(Q:ev x=.bO vs)(Z:vs[j]?=some a):Yields G o ev σ [] [] a:=
 .pure λab cx I β w ae ag aa hop=>by
  have H:=hop x (by simp[h,Op.operands]);rw[Q]at H
  simp only[aD]at H;obtain⟨X,H,S⟩:=H;obtain⟨v,O,Y⟩:=Cx S Z;have O:X[j]?=some v:=by simpa using O
  exact⟨v,by simp[execOp,h,H,Instr.extract,O],Y⟩
def aHe{x:Operand}{d p:Nat}(h:o.op=.nilCheck x)(c:ev x=.ptr d p):Yields G o ev σ [] [] (.ptr d p):=
 .pure λj l I n m f k i g=>by
  have a:=g x (by simp[h,Op.operands]);rw[c]at a
  have e:=a;simp only[aD]at a;obtain⟨b,_,a⟩:=a;exact⟨f x,by simp[execOp,h,a],e⟩
def aHf{x:Operand}{cs:List U}(h:o.op=.nilCheck x)(c:ev x=.dI cs):Yields G o ev σ [] [] (.dI cs):=
 .pure λi k I n m e j g f=>by
  have a:=f x (by simp[h,Op.operands]);rw[c]at a
  have d:=a;simp only[aD,a1]at a;obtain⟨b,l,a,_⟩:=a;exact⟨e x,by simp[execOp,h,a],d⟩
end ops
end
section
structure fR(w w':World)(b:Nat):Prop where
 block:∀k,k≠b->k<w.heap.size->w'.heap[k]?=w.heap[k]?
 size:w.heap.size<=w'.heap.size
 tape:w'.tape=w.tape
 os:w'.os=w.os
 output:w'.output=w.output
 drawn:w.drawn<=w'.drawn
def bl.keep{cx:dz}{I O:a8}{β β':Nat->Value}{w w':World}{x:Nat}{o:b4}{b:Nat}(h:bl cx I β w x o)(Z:fR w w' b)(Q:β' x=β x)(Y:b∉ct (β x))(bt:b1 I O)(X:∀H,H≠b->∀o,O H o=I H o)(S:fQ β β'):
  bl cx O β' w' x o:=
 h.Ai bt Q S λH e=>have n:H≠b:=λq=>Y (q▸e);⟨Z.block H n,X H n,id⟩
def h4.at{cx:dz}{I:a8}{w:World}{x:gc}{v:Value}(h:h4 cx I w x v){b:Nat}(H:bR v=some b):b<w.heap.size/\Place cx b:=by
 cases x with
 |sl T sz xs=>
  rcases h with⟨h,_⟩|⟨Z,aY,arr,O,_,_,S,_,_,_,_,Y⟩
  .rw[h]at H;simp[bR]at H
  .rw[O]at H;simp[bR]at H;subst H;exact⟨gZ S,Y⟩
 |mp K E aa=>
  obtain⟨r,es,clock,O,Q,_,_,X,_⟩:=h;rw[O]at H;simp[bR]at H;subst H;exact⟨gZ Q,X⟩
def g4.at{cx:dz}{I:a8}{w:World}:∀{dV:List gc} {vs:hD},g4 cx I w dV vs->∀{b:Nat},b∈vs.filterMap bR->b<w.heap.size/\Place cx b
 |[],_,h,b,H=>by rw[show _=[]from h]at H;cases H
 |x::r,_,h,b,H=>by
  obtain⟨u,X,rfl,S,_,Q⟩:=h;obtain⟨v,O,e⟩:=iB.1 H;rcases c5.1 O with rfl|O
  .exact S.at e
  .exact Q.at (iB.2 ⟨v,O,e⟩)
section turn
variable {G:bI}{cx:dz}{I:a8}{β:Nat->Value}{σ:ah}{w:World}
theorem bE.turn(h:bE G cx I β σ w){σ2:ah}{Y:a8}{β':Nat->Value}{w':World}{b d:Nat}(X:fR w w' b)(ao:Place cx b)(aj:∀x,x≠d->σ2.get x=σ.get x)
  (az:∀x,x≠d->(σ.get x).isSome->b∉ct (β x)) (bt:b1 I Y) (ag:∀H,H≠b->∀o,Y H o=I H o) (aD:∀(o:Nat) v,Y b o=some v->w'.cell? ⟨b,o,none⟩=some v)
  (aC:Y b none=none) (aa:∀x,x≠d->β' x=β x) (aA:d∉G.ids\/β' d=β d) (ax:fQ β β') (ar:bR (β' d)=some b\/ct (β' d)=[]) (aB:∀o,σ2.get d=some o->bl cx Y β' w' d o):bE G cx Y β' σ2 w' where
 good:=λH o v Z=>by
  by_cases Q:H=b
  .grind
  .rw[ag H Q]at Z;have ae:=h.good H o v Z;have ay:H<w.heap.size:=by
    have:=zu w _ ae;exact this
   rw[World.cell?_of_block (w:=w) (X.block H Q ay)];exact ae
 fA:=λH v Z=>by
  by_cases Q:H=b
  .grind
  .rw[ag H Q]at Z;obtain⟨es,clock,ae,aw⟩:=h.fA H v Z;exact⟨es,clock,by rw[X.block H Q (gZ ae)];exact ae,aw⟩
 fV:=h.fV.trans bt
 gm:=λH Q ab o=>by
  have:H≠b:=λe=>by
   subst e;rcases ao with q|q
   .omega
   .exact ab q
  rw[ag H this];exact h.gm H Q ab o
 frame:=λH Q ab=>by
  have:H≠b:=λe=>by
   subst e;rcases ao with q|q
   .omega
   .exact ab q
  rw[X.block H this (by have:=h.size;omega)];exact h.frame H Q ab
 size:=gP h.size X.size
 tape:=X.tape.trans h.tape
 os:=X.os.trans h.os
 output:=X.output.trans h.output
 drawn:=gP h.drawn X.drawn
 bY:=λx o S=>by
  by_cases O:x=d
  .grind
  .rw[aj x O]at S;exact(h.bY x o S).keep X (aa x O) (az x O (by rw[S];rfl)) bt ag ax
 cQ:=λx y S ak am H=>by
  by_cases O:x=d
  .subst O;rw[aj y (et am)]at ak;rw[aa y (et am)];intro e aq;rcases ar with q|q
   .have:=yK q e
    grind
   .grind
  .rw[aj x O]at S;rw[aa x O];by_cases an:y=d
   .subst an;intro e aq;rcases ar with q|q
    .have:=yK q aq
     grind
    .grind
   .rw[aj y an]at ak;rw[aa y an];exact h.cQ x y S ak am H
 tab:=h.tab
 keep:=λx S=>by
  by_cases O:x=d
  .subst O;rcases aA with q|q
   .grind
   .rw[q];exact h.keep x S
  .rw[aa x O];exact h.keep x S
theorem bE.zf(h:bE G cx I β σ w){x:Nat}{o:b4}(aq:σ.get x=some o){b:Nat}(aa:b∈ct (β x)):b<w.heap.size/\Place cx b:=by
 have O:=h.bY x o aq;by_cases am:∃dV,o=.de dV
 .obtain⟨dV,rfl⟩:=am;simp only[bl]at O;rcases O with q|⟨ae,Q,S⟩
  .rw[q]at aa;cases aa
  .rw[Q]at aa;exact S.at aa
 have H:bR (β x)=some b:=by
  cases ao:β x with
  |tuple vs=>
   exfalso;cases o<;>simp only[bl,ao]at O<;>first|exact am ⟨_,rfl⟩|(simp at O)
  |_=>rw[ao]at aa;simpa [ct]using aa
 clear aa;cases o with
 |de dV=>exact absurd ⟨dV,rfl⟩ am
 |qc T xs t=>
  simp only[bl]at O;rcases O with q|⟨Z,aY,arr,Q,_,_,X,_,_,_,_,_,_,ab⟩
  .rw[q]at H;simp[bR]at H
  .rw[Q]at H;simp[bR]at H;subst H;exact⟨gZ X,ab⟩
 |vec T xs=>
  simp only[bl]at O;rcases O with q|⟨Z,arr,Q,S,_,_,Y⟩
  .rw[q]at H;simp[bR]at H
  .rw[Q]at H;simp[bR]at H;subst H;exact⟨gZ S,Y⟩
 |tC es clock an seen=>
  simp only[bl]at O;rcases O with q|⟨r,az,Q,S,_,_,_,_,aj⟩
  .rw[q]at H;simp[bR]at H
  .rw[Q]at H;simp[bR]at H;subst H;exact⟨gZ S,aj⟩
 |hM T e n ag=>
  simp only[bl]at O;rcases O with q|⟨Z,aY,arr,ae,Q,_,_,X,_,_,_,_,_,ak⟩
  .rw[q]at H;simp[bR]at H
  .rw[Q]at H;simp[bR]at H;subst H;exact⟨gZ X,ak⟩
 |fL T sz xs aw e ag=>
  simp only[bl]at O;rcases O with q|⟨Z,aY,arr,ae,ax,vs,Q,_,_,X,_,_,_,_,_,_,ab⟩
  .rw[q]at H;simp[bR]at H
  .rw[Q]at H;simp[bR]at H;subst H;exact⟨gZ X,ab⟩
 |oA T sz xs aw e ag=>
  simp only[bl]at O;rcases O with q|⟨Z,aY,arr,ae,vs,Q,_,_,X,_,_,_,_,_,ak⟩
  .rw[q]at H;simp[bR]at H
  .rw[Q]at H;simp[bR]at H;subst H;exact⟨gZ X,ak⟩
 |eo K E e keys ag aB=>
  simp only[bl]at O;rcases O with q|⟨r,es,clock,ae,ax,Q,S,_,_,_,_,aj,_⟩
  .rw[q]at H;simp[bR]at H
  .rw[Q]at H;simp[bR]at H;subst H;exact⟨gZ S,aj⟩
 |cells T cs=>
  simp only[bl]at O;rcases O with q|⟨Z,arr,Q,S,_,_,Y⟩
  .rw[q]at H;simp[bR]at H
  .rw[Q]at H;simp[bR]at H;subst H;exact⟨gZ S,Y⟩
 |slice T sz xs k bL=>
  simp only[bl]at O;rcases O with q|⟨q,_⟩|⟨Z,aY,arr,Q,_,_,X,_,_,_,_,_,_,ab⟩
  .rw[q]at H;simp[bR]at H
  .rw[q]at H;simp[bR]at H
  .rw[Q]at H;simp[bR]at H;subst H;exact⟨gZ X,ab⟩
 |win T sz xs=>
  simp only[bl]at O;rcases O with q|⟨q,_⟩|⟨Z,aC,aY,arr,Q,_,_,X,_,_,_,_,ay⟩
  .rw[q]at H;simp[bR]at H
  .rw[q]at H;simp[bR]at H
  .rw[Q]at H;simp[bR]at H;subst H;exact⟨gZ X,ay⟩
 |map K E an=>
  simp only[bl]at O;rcases O with q|⟨r,es,clock,Q,S,_,_,Y,_⟩
  .rw[q]at H;simp[bR]at H
  .rw[Q]at H;simp[bR]at H;subst H;exact⟨gZ S,Y⟩
 |jY K E an=>
  simp only[bl]at O;rcases O with q|⟨r,es,clock,Q,S,_,Y,_⟩
  .rw[q]at H;simp[bR]at H
  .rw[Q]at H;simp[bR]at H;subst H
   obtain⟨_,_,aG,_⟩:=h.fA _ _ S
   grind
 |gl es clock K E an=>
  simp only[bl]at O;rcases O with q|⟨r,Q,S,_,_,Y,_⟩
  .rw[q]at H;simp[bR]at H
  .rw[Q]at H;simp[bR]at H;subst H;exact⟨gZ S,Y⟩
 |iter aA aE aD seen=>
  simp only[bl]at O;rcases O with q|⟨r,az,Q,_,ar,_,Y⟩
  .rw[q]at H;simp[bR]at H
  .rw[Q]at H;simp[bR]at H;subst H;exact⟨gZ ar,Y⟩
 |hdr aA n=>
  simp only[bl]at O;rw[O.1]at H;simp[bR]at H
def bE.rB(h:bE G cx I β σ w){x:Nat}{o:b4}(O:σ.get x=some o){b:Nat}(H:b∈ct (β x)):b<w.heap.size:=(h.zf O H).1
def bE.ij(h:bE G cx I β σ w){b:Nat}(Q:w.heap.size<=b)(o:iG):I b o=none:=by
 cases H:I b o with
 |none=>rfl
 |some v=>
  cases o with
  |none=>
   obtain⟨es,clock,O,_⟩:=h.fA b v H;have:=gZ O;omega
  |some o=>
   have:=zu w _ (h.good b o v H);simp at this;omega
def bE.W8(h:bE G cx I β σ w){b:Nat}{o:Obj}(O:w.heap[b]?=some o)(S:∀es c,o≠.map es c):I b none=none:=by
 cases Q:I b none with
 |none=>rfl
 |some v=>
  obtain⟨es,clock,H,_⟩:=h.fA b v Q;rw[O]at H;cases H
  exact absurd rfl (S es clock)
def bE.oQ(h:bE G cx I β σ w){b:Nat}{arr:ig}{T:TypeId}{bL:Nat×Nat}(H:w.heap[b]?=some (.cells arr T bL)):I b none=none:=h.W8 H λ_ _=>by simp
def fR.alloc(w:World)(o:Obj):fR w (w.alloc o) w.heap.size:=
 ⟨λk _ H=>heap_alloc_old w o k H,by simp,rfl,rfl,rfl,eb _⟩
def fR.setRow(w:World)(g:Nat)(cs:ig):fR w (w.setRow g cs) g:=
 ⟨λk H _=>pg w g k cs H,by simp,rfl,rfl,rfl,eb _⟩
def fR.drew{w w':World}{b:Nat}(h:fR w.drew w' b):fR w w' b:=⟨h.block,h.size,h.tape,h.os,h.output,gP (Nat.le_succ _) h.drawn⟩
def gA(β:Nat->Value)(d:Nat)(v:Value):Nat->Value:=λa=>if a=d then v else β a
def gb(β:Nat->Value)(d:Nat)(v:Value):gA β d v d=v:=by simp[gA]
def gx(β:Nat->Value){d x:Nat}(v:Value)(h:x≠d):gA β d v x=β x:=by simp[gA,h]
theorem aFO{β:Nat->Value}{d:Nat}{v:Value}(h:β d=.nilFunc):fQ β (gA β d v):=λb=>by
 by_cases a:b=d
 .grind
 .exact .inr (gx β v a)
def bE.real(h:bE G cx I β σ w){d:Nat}(hd:d∉G.ids)(Z:β d=.nilFunc){o:Obj}{v:Value}(X:bR v=some w.heap.size)(Y:∀O,σ.get d=some O->bl cx I (gA β d v) (w.alloc o) d O):
  bE G cx I (gA β d v) σ (w.alloc o):=
 h.turn (fR.alloc w o) (.inl h.size) (λ_ _=>rfl) (λx Q H e=>by
   obtain⟨O,H⟩:=hZ.1 H;exact absurd (h.rB H e) (by omega)) (b1.refl I) (λ_ _ _=>rfl) (λab aa S=>by rw[h.ij (eb _)]at S;cases S) (h.ij (eb _) none)
  (λx Q=>gx β v Q) (.inl hd) (aFO Z) (.inl (by rw[gb];exact X)) Y
theorem bE.lay(h:bE G cx I β σ w)(vs:ig)(E:TypeId):∃X,b1 I X/\(∀(o:Nat) v,vs[o]?=some v->X w.heap.size o=some v)/\bE G cx X β σ (w.alloc (.cells vs E)):=by
  let X:a8:=I.on λb o=>if b=w.heap.size then vs[o]? else I b o
  have bt:b1 I X:=λb o v O=>by
    cases o with
    |none=>exact O
    |some o=>
    show(if b=w.heap.size then vs[o]? else I b o)=some v;split
    · rename_i e;subst e;rw[h.ij (eb _)]at O;cases O
    · exact O
  refine⟨X,bt,λo v O=>by show(if _ then _ else _)=_;rw[bx rfl];exact O,?_⟩;have ag:∃d,σ.get d=none:=by
    have:∀(l:ah),∃n,∀m,n<=m->l.get m=none:=by
      intro l;induction l with
      |nil=>exact⟨0,λ_ _=>rfl⟩
      |cons x r ae=>
        obtain⟨n,Q⟩:=ae;obtain⟨k,v⟩:=x;exact⟨max n (k+1),λm aj=>by rw[aFc,bw (by omega)];exact Q m (by omega)⟩
    obtain⟨n,Q⟩:=this σ;exact⟨n,Q n (eb n)⟩
  obtain⟨d,hd⟩:=ag
  refine{good:=λH o v O=>?_,fA:=λH v O=>?_,fV:=h.fV.trans bt,gm:=λH S Q o=>?_,frame:=λH S Q=>?_,size:=gP h.size (by simp),tape:=h.tape,os:=h.os,output:=h.output,drawn:=h.drawn,
         bY:=λx o Z=>?_,cQ:=h.cQ,tab:=h.tab,keep:=h.keep}
  · change (if H=w.heap.size then vs[o]? else I H o)=some v at O
    split at O
    · simp_all
    · have Y:=h.good H o v O
      have ab:=zu w _ Y;rw[World.cell?_alloc_lt w _ _ ab];exact Y
  · obtain⟨es,clock,Y,aa⟩:=h.fA H v O
    exact⟨es,clock,by rw[heap_alloc_old w _ H (gZ Y)];exact Y,aa⟩
  · have:H≠w.heap.size:=by have:=h.size;omega
    cases o with
    |none=>exact h.gm H S Q none
    |some o=>
    show(if H=w.heap.size then vs[o]? else I H o)=_;rw[bw this];exact h.gm H S Q o
  · rw[heap_alloc_old w _ H (by have:=h.size;omega)]
    exact h.frame H S Q
  · refine(h.bY x o Z).keep (b:=w.heap.size) (fR.alloc w _) rfl (λe=>absurd (h.rB Z e) (by omega)) bt (λH S o=>?_) (fQ.refl β)
    cases o with
    |none=>rfl
    |some o=>
    show(if H=w.heap.size then vs[o]? else I H o)=_;rw[bw S]
end turn
def i2:U->List U
 |.agg cs=>cs
 |a=>[a]
def k2.one:k2->Bool
 |.row _=>false
 |_=>true
def U.one:U->Bool
 |.int _ _=>true|.bool _=>true|.str _=>true|.bn _ _=>true|.dI _=>true|.fn _ _=>true|.aF=>true|.gT=>true|.own _=>true|.ptr _ _=>true|.cc _=>true|.cD _ _=>true|.gj=>true|.iY _=>true|.cU k _=>k.one|.dK _=>true|.gr _=>true
 |_=>false
def aGt{I:a8}{β:Nat->Value}{a:U}{v:Value}(h:a.one=true)(b:aD I β a v):v.oneCell'=true/\v.cells=#[v]:=by
 cases a<;>simp only[U.one]at h<;>first|cases h|skip
 all_goals simp only[aD,a1]at b
 all_goals first
  |(subst b;exact⟨rfl,rfl⟩)
  |(obtain⟨_,_,rfl,_⟩:=b;exact⟨rfl,rfl⟩)
  |(obtain⟨_,_,_,rfl,_⟩:=b;exact⟨rfl,rfl⟩)
  |(obtain⟨_,_,_,_,rfl,_⟩:=b;exact⟨rfl,rfl⟩)
  |(obtain⟨_,rfl,_⟩:=b;exact⟨rfl,rfl⟩)
  |(rename_i f e;cases f<;>simp only[k2.one]at h<;>first|cases h|skip
    all_goals simp only[k2.rep]at b
    all_goals first|(obtain⟨g,d,rfl⟩:=b;exact⟨rfl,rfl⟩)|(obtain⟨_,_,_,_,_,_,rfl⟩:=b;exact⟨rfl,rfl⟩))
  |(obtain⟨_,_,rfl⟩:=b;exact⟨rfl,rfl⟩)
  |(obtain⟨rfl,c⟩:=b
    rename_i e;cases d:β e<;>rw[d]at c<;>first|(simp[gU]at c;done)|(simp[l3]at c;done)|exact⟨rfl,rfl⟩)
def U.flat:U->Bool
 |.agg cs=>cs.all U.one
 |a=>a.one
def Gn{I:a8}{β:Nat->Value}:∀(cs:List U) (vs:hD),cs.all U.one=true->bD I β cs vs->∀v∈vs,v.oneCell'=true
 |[],vs,_,h=>by simp only[bD]at h;subst h;simp
 |x::r,vs,b,h=>by
  simp only[bD]at h;simp only[qA,b9]at b;obtain⟨f,d,rfl,e,c⟩:=h;intro v a;rcases c5.1 a with rfl|a
  .exact(aGt b.1 e).1
  .exact Gn r d b.2 c v a
def aFQ{I:a8}{β:Nat->Value}{a:U}{v:Value}(h:a.flat=true)(b:aD I β a v):bD I β (i2 a) v.cells.toList/\∀j∈v.cells.toList,j.oneCell'=true:=by
 by_cases c:∃d,a=.agg d
 .obtain⟨d,rfl⟩:=c;simp only[aD]at b;obtain⟨k,rfl,b⟩:=b;simp only[U.flat]at h;exact⟨b,Gn d _ h b⟩
 .have i:a.one=true:=by cases a<;>first|exact h|exact absurd ⟨_,rfl⟩ c
  have e:i2 a=[a]:=by cases a<;>first|rfl|exact absurd ⟨_,rfl⟩ c
  obtain⟨f,g⟩:=aGt i b;rw[e,g];exact⟨⟨v,[],rfl,b,rfl⟩,by simpa using f⟩
section ops
variable {G:bI}{o:Oper}{ev:Operand->U}{σ:ah}
def bB.alloc{T d:Nat}{zs:hD}(h:o.op=.alloc T)(hz:∀w,∃z,(zeroValue T).run G.P w=.ok z w/\z.cells=zs.toArray)(hi:G.ids.contains d=false):
  Yields G o ev ((d,.cells T (l0 zs))::σ) [d] [d] (.ptr d 0):=by
 intro ag cx I β w S X O ae hop;obtain⟨z,aa,Z⟩:=hz w;have Y:(execOp S o).run G.P w=.ok (.value (.pointer (some ⟨w.heap.size,0,none⟩))) (w.alloc (.cells zs.toArray T)):=by
  simp[execOp,h,Instr.alloc,aa,newVar,newRow,Z]
 rw[Y];have ab:=ae d (by simp);refine⟨I,gA β d (.pointer (some ⟨w.heap.size,0,none⟩)),by simp only[aD];exact⟨w.heap.size,by rw[gb];rfl,rfl⟩,?_,b1.refl I,λx Q=>gx β _ (λe=>Q (by simp[e]))⟩;refine O.real (by simpa using hi) ab rfl λaj H=>?_;rw[X d (by simp),aFc,bx rfl]at H;injection H with H
 subst H;simp only[bl,gb];exact .inr ⟨w.heap.size,zs.toArray,rfl,pf w _,by simpa using Ck I _ zs,λo=>O.ij (eb _) o,.inl O.size⟩
def bB.box{T d:Nat}{x:Operand}{a:U}{cs:List U}(h:o.op=.box T x)(Q:ev x=a)(Z:a.flat=true)(ab:i2 a=cs)(aj:a.refs (Nat.beq d)=false)(hi:G.ids.contains d=false):
  Yields G o ev ((d,.cells T cs)::σ) [d] [d] (.ptr d 0):=by
 intro ak cx I β w S aa O ag hop;have X:=hop x (by simp[h,Op.operands]);rw[Q]at X;have ae:(execOp S o).run G.P w=.ok (.value (.pointer (some ⟨w.heap.size,0,none⟩))) (w.alloc (.cells (S x).cells T)):=by
  simp[execOp,h,Instr.box,newVar,newRow]
 rw[ae];have Y:=ag d (by simp);refine⟨I,gA β d (.pointer (some ⟨w.heap.size,0,none⟩)),by simp only[aD];exact⟨w.heap.size,by rw[gb];rfl,rfl⟩,?_,b1.refl I,λx Q=>gx β _ (λe=>Q (by simp[e]))⟩;refine O.real (by simpa using hi) Y rfl λam H=>?_;rw[aa d (by simp),aFc,bx rfl]at H;injection H with H
 subst H;simp only[bl,gb];refine .inr ⟨w.heap.size,(S x).cells,rfl,pf w _,?_,λo=>O.ij (eb _) o,.inl O.size⟩;have:=(aFQ Z X).1;rw[ab]at this;exact Lq (b1.refl I) (aFO Y) _ _ this
structure zY(P:Program)(T:TypeId)(zs:List Value)(b7:List (Nat×Nat)):Prop where
 run:∀(parts:Array (Nat×Value)) (cells:ig) w,Instr.fill (λi=>b7[i]?) zs.toArray parts.toList=some cells->(Instr.build T parts).run P w=.ok (.agg cells) w
theorem adb{P:Program}{T:TypeId}{fs:Array Field}{zs:hD}{a:List (Nat×Nat)}(g:∀w,(zeroValue T).run P w=.ok (.agg zs.toArray) w)(e:P.underlying T=some (.struct fs))
  (b:∀w,(fs.mapM λf=>do pure (f.offset,<-sizeOf f.type):Sem (Array (Nat×Nat))).run P w=.ok a.toArray w):zY P T zs a where
 run:=λparts d w h=>by
  have c:Instr.fill (a.toArray[·]?) zs.toArray parts.toList=some d:=by grind
  unfold Instr.build;simp only[fD,g,gQ,ja e,b,Value.cells];simp only[c];rfl
def gy{α:Type}(L:List α)(off:Nat)(cs:List α):List α:=L.take off++cs++L.drop (off+cs.length)
def rM(c:List (Nat×Nat))(b:List U):List (Nat×U)->Option (List U)
 |[]=>some b
 |(i,a)::rest=>match c[i]? with
  |none=>none
  |some (off,size)=>bif Nat.beq (i2 a).length size&&Nat.ble (off+(i2 a).length) b.length&&a.flat then rM c (gy b off (i2 a)) rest else none
def Lt(cs:hD):∀(k off:Nat) (L:ig),off+k+cs.length<=L.size->((cs.zipIdx k).foldl (λ(d:ig) (x:Value×Nat)=>d.setIfInBounds (off+x.2) x.1) L).toList=L.toList.take (off+k)++cs++L.toList.drop (off+k+cs.length):=by
 induction cs with
 |nil=>intro k off L a;simp
 |cons c r b=>
  intro k off L a;simp only[List.zipIdx_cons,List.foldl_cons];have:=b (k+1) off (L.setIfInBounds (off+k) c) (by simp at a ⊢;omega);rw[this];have e:=list_seg_step L.toList (off+k) c r (by simp at a ⊢;omega);simpa [Array.toList_setIfInBounds,mD]using e
def nT{I:a8}{β:Nat->Value}:∀(xs ys:List U) (a vs:hD),bD I β xs a->bD I β ys vs->bD I β (xs++ys) (a++vs)
 |[],ys,a,vs,h,b=>by simp only[bD]at h;subst h;simpa using b
 |x::r,ys,a,vs,h,b=>by
  simp only[bD]at h;obtain⟨f,c,rfl,e,d⟩:=h;simp only[l6,bD];exact⟨f,c++vs,rfl,e,nT r ys c vs d b⟩
def Ms{I:a8}{β:Nat->Value}(m:List (Nat×Nat)):∀(parts:List (Nat×U)) (c:List (Nat×Value)) (g:List U) (L:ig) (out:List U),bD I β g L.toList->
  (parts.length=c.length/\∀(j:Nat) (p:Nat×U) (q:Nat×Value),parts[j]?=some p->c[j]?=some q->p.1=q.1/\aD I β p.2 q.2)->rM m g parts=some out->∃r,Instr.fill (λi=>m[i]?) L c=some r/\bD I β out r.toList
 |[],c,g,L,out,h,d,b=>by
  have:c=[]:=mN d.1.symm;subst this;simp only[rM,ee]at b;subst b;exact⟨L,rfl,h⟩
 |(i,a)::rest,c,g,L,out,h,d,b=>by
  cases c with
  |nil=>simp at d
  |cons q E=>
   obtain⟨H,f⟩:=q;have o:=d.2 0 _ _ rfl rfl;simp only at o;obtain⟨rfl,y⟩:=o;simp only[rM]at b;cases n:m[i]? with
   |none=>rw[n]at b;cases b
   |some os=>
    obtain⟨e,t⟩:=os;rw[n]at b;simp only at b;cases l:(Nat.beq (i2 a).length t&&Nat.ble (e+(i2 a).length) g.length&&a.flat)with
    |false=>rw[l]at b;simp at b
    |true=>
     rw[l]at b;simp only[cm]at b;simp only[b9,n9,Nat.ble_eq]at l;obtain⟨⟨G,F⟩,v⟩:=l;obtain⟨d1,d2⟩:=aFQ v y;have s:=nS _ _ d1;have A:=nS _ _ h;simp only[kr]at s A;simp only[Instr.fill,n];rw[bw (show ¬((decide (f.cells.size≠t)||decide (e+f.cells.size>L.size))=true)from by simp;omega)];refine Ms m rest E _ _ out ?_ ⟨by simpa using d.1,λj p q u w=>d.2 (j+1) p q (by simpa using u) (by simpa using w)⟩ b;have C:=Lt f.cells.toList 0 e L (by simp;omega)
     have D:(f.cells.zipIdx.foldl (λB (k:Value×Nat)=>B.setIfInBounds (e+k.2) k.1) L)=((f.cells.toList.zipIdx 0).foldl (λ(z:ig) (k:Value×Nat)=>z.setIfInBounds (e+k.2) k.1) L):=by
      rw[<-Array.foldl_toList,Array.toList_zipIdx]
     rw[D,C];simp only[Nat.add_zero,gy];refine nT _ _ _ _ (nT _ _ _ _ (yd _ _ _ h) d1) ?_;have:=yc (e+(i2 a).length) _ _ h;have x:f.cells.toList.length=(i2 a).length:=by simpa using s
     rw[x];exact this
def bB.build{T:TypeId}{parts:Array (Nat×Operand)}{zs:hD}{b7:List (Nat×Nat)}{cs:List U}(h:o.op=.build T parts)(X:zY G.P T zs b7)
  (ab:rM b7 (l0 zs) (parts.toList.map λp=>(p.1,ev p.2))=some cs):Yields G o ev σ [] [] (.agg cs):=
 .pure λaj cx I β w S ak ag hop=>by
  have ae:∀p∈parts.toList,aD I β (ev p.2) (S p.2):=λp Y=>hop p.2 (by simp only[h,Op.operands];simpa using ⟨p.1,by simpa using Y⟩)
  obtain⟨r,Z,aa⟩:=Ms b7 (parts.toList.map λp=>(p.1,ev p.2)) (parts.toList.map λp=>(p.1,S p.2)) (l0 zs) zs.toArray cs (by simpa using Ck I β zs)
   ⟨by simp,λj p q H O=>by
    simp only[l7]at H O;cases Q:parts.toList[j]? with
    |none=>rw[Q]at H;cases H
    |some y=>
     rw[Q]at H O;simp only[iS,ee]at H O;subst H O;exact⟨rfl,ae y (nw Q)⟩⟩ ab
  refine⟨.agg r,?_,by simp only[aD];exact⟨r,rfl,aa⟩⟩;have:(Instr.build T (parts.map λ(i,x)=>(i,S x))).run G.P w=.ok (.agg r) w:=X.run _ r w (by simpa using Z);simp[execOp,h,this]
structure uj(P:Program)(T E sz:Nat)(zs:List Value):Prop where
 fz:P.underlying T=some (.slice E)
 size:∀w,(sizeOf E).run P w=.ok sz w
 zero:∀w,∃z,(zeroValue E).run P w=.ok z w/\z.cells=zs.toArray
 adQ:zs.length=sz
def p4{sz:Nat}:∀(xs:List (List U)),(∀e∈xs,e.length=sz)->xs.flatten.length=xs.length*sz
 |[],_=>by simp
 |e::r,h=>by
  simp only[kk,dF,fW,h e (by simp),p4 r (λb a=>h b (by simp[a]))];rw[ha];omega
def qe(sz:Nat):Nat->List (Nat×U)->Option (List (List U))
 |_,[]=>some []
 |k,(i,a)::r=>bif Nat.beq i k&&Nat.beq (i2 a).length sz&&a.flat then(qe sz (k+1) r).map (i2 a::·)else none
theorem B5{I:a8}{β:Nat->Value}(sz:Nat):∀(parts:List (Nat×U)) (f:List (Nat×Value)) (k:Nat) (L:ig) (out:List (List U)),
  (parts.length=f.length/\∀(j:Nat) (p:Nat×U) (q:Nat×Value),parts[j]?=some p->f[j]?=some q->p.1=q.1/\aD I β p.2 q.2)->qe sz k parts=some out->(k+parts.length)*sz<=L.size->
  ∃r h,Instr.fill (λi=>some (i*sz,sz)) L f=some r/\r.size=L.size/\r.toList=L.toList.take (k*sz)++h++L.toList.drop ((k+parts.length)*sz)/\bD I β out.flatten h/\(∀e∈out,e.length=sz)/\out.length=parts.length
 |[],f,k,L,out,g,b,_=>by
  have:f=[]:=mN g.1.symm;subst this;simp only[qe,ee]at b;subst b;exact⟨L,[],rfl,rfl,by simp,by simp[bD],by simp,rfl⟩
 |(i,a)::rest,f,k,L,out,g,b,t=>by
  cases f with
  |nil=>simp at g
  |cons q Q=>
   obtain⟨T,c⟩:=q;have v:=g.2 0 _ _ rfl rfl;simp only at v;obtain⟨rfl,D⟩:=v;simp only[qe]at b;cases l:(Nat.beq i k&&Nat.beq (i2 a).length sz&&a.flat)with
   |false=>rw[l]at b;simp at b
   |true=>
    rw[l]at b;simp only[cm,Option.map_eq_some_iff]at b;obtain⟨w,b,rfl⟩:=b;simp only[b9,n9]at l;obtain⟨⟨rfl,x⟩,z⟩:=l;obtain⟨d1,d2⟩:=aFQ z D;have N:=nS _ _ d1;simp only[kr]at N;have S:i*sz+sz<=L.size:=by
     have:(i+1)*sz<=(i+((i,a)::rest).length)*sz:=hp _ (by simp)
     grind
    have e:=Lt c.cells.toList 0 (i*sz) L (by simp;omega)
    have O:(c.cells.zipIdx.foldl (λM (d:Value×Nat)=>M.setIfInBounds (i*sz+d.2) d.1) L)=((c.cells.toList.zipIdx 0).foldl (λ(n:ig) (d:Value×Nat)=>n.setIfInBounds (i*sz+d.2) d.1) L):=by
     rw[<-Array.foldl_toList,Array.toList_zipIdx]
    simp only[Instr.fill];rw[bw (show ¬((decide (c.cells.size≠sz)||decide (i*sz+c.cells.size>L.size))=true)from by simp;omega)];rw[O];generalize R:((c.cells.toList.zipIdx 0).foldl (λ(n:ig) (d:Value×Nat)=>n.setIfInBounds (i*sz+d.2) d.1) L)=s at e;have u:s.size=L.size:=by
     rw[<-kr,e];simp;omega
    obtain⟨r,h,C,B,E,G,J,H⟩:=B5 sz rest Q (i+1) s w ⟨by simpa using g.1,λj p q y A=>g.2 (j+1) p q (by simpa using y) (by simpa using A)⟩ b (by rw[u];simp at t;rw[show i+1+rest.length=i+(rest.length+1)from by omega];exact t);refine⟨r,c.cells.toList++h,C,B.trans u,?_,?_,?_,by simp[H]⟩
    .rw[E,e];have K:(i+1)*sz=i*sz+sz:=by rw[ha,qv]
     have F:(L.toList.take (i*sz+0)).length=i*sz:=by simp;omega
     have m:(L.toList.take (i*sz+0)++c.cells.toList).length=(i+1)*sz:=by rw[dF,F,K];simp;omega
     rw[zq (by rw[m];exact eb _),<-m,List.take_length];have P:List.drop ((i+1+rest.length)*sz) (L.toList.take (i*sz+0)++c.cells.toList++L.toList.drop (i*sz+0+c.cells.toList.length))=L.toList.drop ((i+((i,a)::rest).length)*sz):=by
      rw[List.drop_append,m,List.drop_drop];have:(i+1)*sz<=(i+1+rest.length)*sz:=hp _ (by omega);rw[List.drop_of_length_le (by rw[m];exact this),lC];congr 1;simp only[kr,fW];rw[show i+(rest.length+1)=i+1+rest.length from by omega];omega
     rw[P];simp[jt]
    .simp only[kk];exact nT _ _ _ _ d1 G
    .intro e o;rcases c5.1 o with rfl|o
     .exact x
     .exact J e o
theorem bB.buildSlice{T E sz len:Nat}{parts:Array (Nat×Operand)}{zs:hD}{xs:List (List U)}(h:o.op=.buildSlice T len parts)(Y:uj G.P T E sz zs)(ab:parts.size=len)(aJ:len*sz<=65536/\len<=65536)
  (an:qe sz 0 (parts.toList.map λp=>(p.1,ev p.2))=some xs) (ar:i1 xs.flatten=true):Yields G o ev σ [] [] (.bn true xs):=by
 intro aI cx I β w Q aL aj aU hop;have aH:∀p∈parts.toList,aD I β (ev p.2) (Q p.2):=λp ak=>hop p.2 (by simp only[h,Op.operands];simpa using ⟨p.1,by simpa using ak⟩);obtain⟨z,ay,aN⟩:=Y.zero w
 let L:ig:=(Array.range (len*sz)).map ((if len*sz=0 then #[]else z.cells)[·%(if len*sz=0 then #[]else z.cells:ig).size]!)
 have aE:L.size=len*sz:=by simp[L]
 obtain⟨r,am,aw,aK,aR,aA,aT,aB⟩:=B5 (I:=I) (β:=β) sz (parts.toList.map λp=>(p.1,ev p.2)) (parts.toList.map λp=>(p.1,Q p.2)) 0 L xs
  ⟨by simp,λj p q H S=>by
   simp only[l7]at H S;cases Z:parts.toList[j]? with
   |none=>rw[Z]at H;cases H
   |some y=>
    rw[Z]at H S;simp only[iS,ee]at H S;subst H S;exact⟨rfl,aH y (nw Z)⟩⟩ an (by simp[aE,ab])
 have aC:r.toList=am:=by simp_all
 have ae:xs.length=len:=by rw[aB];simp[ab]
 have ax:(execOp Q o).run G.P w=.ok (.value (.slice (some ⟨w.heap.size,0,none⟩) len len)) (w.alloc (.cells r E)):=by
  have aG:¬(len*sz>2 ^ 24):=by have:(2:Nat) ^ 24=16777216:=by decide
                               omega
  have O:Instr.fill (λi=>some (i*sz,sz)) L (parts.map λ(i,x)=>(i,Q x)).toList=some r:=by simpa using aw
  simp only[execOp,h,Instr.buildSlice,fD,ja Y.fz,Y.size,gQ,aG,h0];by_cases X:len*sz=0
  .have aa:L=(Array.range (len*sz)).map ((#[]:ig)[·%(#[]:ig).size]!):=by simp only[L,X,fE]
   rw[aa]at O;simp only[X,fE,fD,jq,gQ]at O ⊢;simp only[O];simp[newRow]
  .have aa:L=(Array.range (len*sz)).map (z.cells[·%z.cells.size]!):=by simp only[L,X,h0]
   rw[aa]at O;simp only[X,h0,fD,ay,jq,gQ];simp only[O];simp[newRow]
 rw[ax];obtain⟨ao,bt,az,aq⟩:=aj.lay r E;refine⟨ao,β,?_,aq,bt,λ_ _=>rfl⟩;simp only[aD,a1];refine⟨_,len,by rw[ae],by omega,?_,λ_=>ae.symm,.inr ⟨w.heap.size,0,rfl,?_⟩⟩
 .simp only[maxLen];omega
 .have:=bD.closed _ _ ar aA;rw[<-aC]at this;exact uW xs 0 _ (k9 bt _ _ this) λj v ag=>by rw[hR];exact az j v (by simpa using ag)
end ops
end
section
variable {au:Bool}
def ah.minus(ids:cR):ah->ah
 |[]=>[]
 |(d,o)::r=>bif ids.contains d then ah.minus ids r else(d,o)::ah.minus ids r
theorem aFh(ids:cR):∀(σ:ah) (d:Nat),(ah.minus ids σ).get d=if d∈ids then none else σ.get d
 |[],d=>by simp[ah.minus,ah.get]
 |(k,o)::r,d=>by
  simp only[ah.minus];cases a:ids.contains k with
  |true=>
   simp only[cm,aFh ids r d,aFc];split
   .rfl
   .grind
  |false=>
   simp only[bH,aFc,aFh ids r d];split
   .grind
   .rfl
def aFy:∀(a b:ah) (d:Nat),ah.get (a++b) d=match a.get d with|some o=>some o|none=>b.get d
 |[],b,d=>by simp[ah.get]
 |(k,o)::r,b,d=>by
  simp only[l6,aFc];split
  .rfl
  .exact aFy r b d
def aF6:∀{σ:ah} {d:Nat},d∈σ.ids->(σ.get d).isSome
 |[],d,a=>by simp[ah.ids]at a
 |(k,o)::r,d,a=>by
  rw[aFc];split
  .rfl
  .rename_i b;simp only[ah.ids,dr,c5]at a;rcases a with a|a
   .omega
   .exact aF6 (σ:=r) a
def rq(β:Nat->Value)(σ:ah):cR:=σ.flatMap λa=>ct (β a.1)
def Fx{β:Nat->Value}{σ:ah}{b:Nat}:b∈rq β σ↔∃p∈σ,b∈ct (β p.1):=by simp[rq,r8]
section after
variable {G:bI}{cx:dz}{I:a8}{β:Nat->Value}{σ:ah}{w:World}
def bE.placeOf(h:bE G cx I β σ w){x:Nat}{o:b4}(O:σ.get x=some o){b:Nat}(H:b∈ct (β x)):Place cx b:=(h.zf O H).2
def kC(I:a8)(β:Nat->Value)(ch:ah)(w:World):dz:={B:=w.heap.size,w0:=w,I0:=I,sn:=rq β ch,rC:=β}
def bl.place{cx jD:dz}{I:a8}{β:Nat->Value}{w:World}{d:Nat}{o:b4}(H:∀b∈ct (β d),Place cx b->Place jD b)(h:bl cx I β w d o):bl jD I β w d o:=
 h.Ai (b1.refl I) rfl (fQ.refl β) λb e=>⟨λ_=>rfl,λ_=>rfl,H b e⟩
def bE.mQ(h:bE G cx I β σ w){P:Program}{ch:ah}(Q:∀p∈ch,σ.get p.1=some p.2):bE ⟨P,0,ch.ids,G.au⟩ (kC I β ch w) I β ch w:=by
  have X:∀d o,ch.get d=some o->σ.get d=some o:=λd o hd=>by
    obtain⟨p,afu,afv,S⟩:=nX ch d o hd;rw[<-afv,<-S];exact Q p afu
  have H:=h.sub X
  exact{good:=H.good,fA:=H.fA,fV:=b1.refl I,gm:=λ_ _ _ _=>rfl,frame:=λ_ _ _=>rfl,size:=eb _,tape:=rfl,os:=rfl,output:=rfl,drawn:=eb _,
        bY:=λd o hd=>(H.bY d o hd).place λb O _=>.inr (by
            obtain⟨p,afu,afv,_⟩:=nX ch d o hd;exact Fx.2 ⟨p,afu,by rw[afv];exact O⟩),
        cQ:=H.cQ,tab:=λe=>(h.tab e).mono h.fV,keep:=λ_ _=>rfl}
theorem bE.after(h:bE G cx I β σ w){P:Program}{ch:ah}(ak:∀p∈ch,σ.get p.1=some p.2){Y:a8}{β':Nat->Value}{σ2:ah}{w':World}
    (Q:bE ⟨P,0,ch.ids,G.au⟩ (kC I β ch w) Y β' σ2 w') (news:cR) (aw:∀d∈news,d∉G.ids/\σ.get d=none) (aV:(σ.minus ch.ids).clean news.contains=true)
    (aB:σ2.clean (λd=>!(ch.ids++news).contains d)=true) :
    bE G cx Y (λd=>if d∈news then β' d else β d) (σ2++σ.minus ch.ids) w'/\b1 I Y/\(∀(r:U) v,r.refs (λd=>!(ch.ids++news).contains d)=false->aD Y β' r v->aD Y (λd=>if d∈news then β' d else β d) r v):=by
  have a7:∀d o,ch.get d=some o->σ.get d=some o:=λd o hd=>by
    obtain⟨p,Z,aa,aT⟩:=nX ch d o hd;rw[<-aa,<-aT];exact ak p Z
  have bt:b1 I Y:=Q.fV
  have ax:∀d,(λd=>!(ch.ids++news).contains d) d=false->(λd=>if d∈news then β' d else β d) d=β' d:=λd hd=>by
    have hd:d∈ch.ids\/d∈news:=by grind
    show(if d∈news then β' d else β d)=β' d;split
    · rfl
    · rename_i aw
      rcases hd with hd|hd
      · exact(Q.keep d hd).symm
      · grind
  have aG:∀b,b∈rq β ch->Place cx b:=λb X=>by
    obtain⟨p,Z,aa⟩:=Fx.1 X;exact h.placeOf (ak p Z) aa
  have aW:∀b,Place (kC I β ch w) b->Place cx b:=λb X=>by
    rcases X with X|X
    · exact .inl (gP h.size X)
    · exact aG b X
  have aK:∀b,b<cx.B->b∉cx.sn->b<(kC I β ch w).B/\b∉(kC I β ch w).sn:=λb S O=>
    ⟨vZ S h.size,λX=>by
      rcases aG b X with q|q
      · omega
      · exact O q⟩
  have ab:∀x o,(σ.minus ch.ids).get x=some o->x∉ch.ids/\σ.get x=some o:=λx o H=>by
    rw[aFh]at H;split at H
    · cases H
    · grind
  have aH:∀x o,(σ.minus ch.ids).get x=some o->∀b∈ct (β x),b<(kC I β ch w).B/\b∉(kC I β ch w).sn:=λx o H b X=>by
    obtain⟨S,O⟩:=ab x o H;refine⟨h.rB O X,λaX=>?_⟩;obtain⟨p,Z,aa⟩:=Fx.1 aX;have aY:p.1≠x:=λe=>S (by rw[<-e];exact dg.2 ⟨p,Z,rfl⟩);exact h.cQ p.1 x (by rw[ak p Z];rfl) (by rw[O];rfl) aY b aa X
  have aI:∀x o,(σ.minus ch.ids).get x=some o->(if x∈news then β' x else β x)=β x:=λx o H=>by
    have:x∉news:=λar=>by
      have:=(aw x ar).2;rw[(ab x o H).2]at this;cases this
    rw[bw this]
  refine⟨{good:=Q.good,fA:=Q.fA,fV:=h.fV.trans bt,gm:=λb S O o=>?_,frame:=λb S O=>?_,size:=gP h.size Q.size,tape:=Q.tape.trans h.tape,os:=Q.os.trans h.os,output:=Q.output.trans h.output,drawn:=gP h.drawn Q.drawn,
          bY:=λx o H=>?_,cQ:=λx y H an ay b=>?_,tab:=h.tab,keep:=λx H=>?_},bt,λr v aN aL=>sW ax r v aN aL⟩
  · obtain⟨ao,aq⟩:=aK b S O
    exact(Q.gm b ao aq o).trans (h.gm b S O o)
  · obtain⟨ao,aq⟩:=aK b S O
    exact(Q.frame b ao aq).trans (h.frame b S O)
  · rw[aFy]at H
    cases O:σ2.get x with
    |some a9=>
      rw[O]at H;cases H;obtain⟨am,ag⟩:=aFi aB x o O;exact((Q.bY x o O).place (λb _=>aW b)).beta ax am ag
    |none=>
      rw[O]at H;simp only at H;obtain⟨a5,aU⟩:=ab x o H;obtain⟨am,ag⟩:=aFi aV x o H;have aR:=h.bY x o aU
      have aE:∀d,news.contains d=false->(λd=>if d∈news then β' d else β d) d=β d:=λd hd=>by
        have:d∉news:=by simpa using hd
        show(if d∈news then β' d else β d)=β d;rw[bw this]
      exact o.th▸aR.go (r:=id) bt (aE x am) (λy e=>.inr (aE y e)) (λb X=>by
        obtain⟨aj,ae⟩:=aH x o H b X;exact⟨λ_=>Q.frame b aj ae,λo=>Q.gm b aj ae o,id⟩) ag
  ·
    have aJ:∀x,(σ2.get x).isSome->(if x∈news then β' x else β x)=β' x:=λx H=>by
      obtain⟨o,H⟩:=hZ.1 H;exact ax x (aFi aB x o H).1
    have aC:∀x,(ah.get (σ2++σ.minus ch.ids) x).isSome->(σ2.get x).isSome\/∃o,(σ.minus ch.ids).get x=some o:=λx H=>by
      rw[aFy]at H;cases O:σ2.get x with
      |some o=>exact .inl rfl
      |none=>rw[O]at H;exact .inr (hZ.1 H)
    have ba:∀x y,(σ2.get x).isSome->(∃o,(σ.minus ch.ids).get y=some o)->b∈ct (β' x)->b∈ct (β y)->False:=λx y H ⟨o,an⟩ aZ a2=>by
      obtain⟨a4,H⟩:=hZ.1 H;obtain⟨aj,ae⟩:=aH y o an b a2;rcases Q.placeOf H aZ with q|q
      · omega
      · exact ae q
    show b∈ct (if x∈news then β' x else β x)->b∉ct (if y∈news then β' y else β y);rcases aC x H with S|⟨aA,S⟩<;>rcases aC y an with O|⟨az,O⟩
    · rw[aJ x S,aJ y O]
      exact Q.cQ x y S O ay b
    · grind
    · grind
    · rw[aI x aA S,aI y az O]
      exact h.cQ x y (by rw[(ab x aA S).2];rfl) (by rw[(ab y az O).2];rfl) ay b
  · have:x∉news:=λar=>(aw x ar).1 H
    simp only[this,h0];exact h.keep x H
end after
section ops
variable {G:bI}{o:Oper}{ev:Operand->U}{σ:ah}
def u2{I:a8}{β:Nat->Value}(ev:Operand->U)(a:Operand->Value):∀(xs:List Operand),(∀x∈xs,aD I β (ev x) (a x))->bD I β (xs.map ev) (xs.map a)
 |[],_=>by simp[bD]
 |x::r,h=>by
  simp only[dr,bD];exact⟨a x,r.map a,rfl,h x (by simp),u2 ev a r λc b=>h c (by simp[b])⟩
variable {P:Program}
def yJ{o:Oper}{b:Operand}{args:Array Operand}{k:Array TypeId}{a:Operand->Value}{f:FuncId}{vs:ig}{w:World}(h:o.op=.call ⟨.value b,args,k⟩)(c:a b=.func (.func f) #[] vs)
  (d:∀(args:ig) (w:World),(callFunc f args).run P w=.ok (.enter f args) w):(execOp a o).run P w=.ok (.enter f ((args.toList.map a++vs.toList).toArray)) w:=by
 simp[execOp,h,resolve,c,Deferred.ofValue,invoke,d]
def bB.call{ab:Operand}{args:Array Operand}{k:Array TypeId}{f:FuncId}{aY cM:List U}{σs ch:ah}{r:U}(h:o.op=.call ⟨.value ab,args,k⟩)(ar:ev ab=.fn f aY)
  (aI:∀(args:ig) (w:World),(callFunc f args).run G.P w=.ok (.enter f args) w) (aq:∀p∈σs,σ.get p.1=some p.2) (ak:jR σs (args.toList.map ev++aY) cM) (aA:∀p∈ch,σs.get p.1=some p.2)
  (aB:bb G.au G.P f ch cM r) (am:r.closed=true) (aN:ch.clean (λd=>!(ch.ids++[]).contains d)=true):Yields G o ev σ [] σs.ids r:=by
 intro Z cx I β w aw az Y _ hop;have H:=hop ab (by simp[h,Op.operands,Call.operands]);rw[ar]at H;simp only[aD]at H;obtain⟨vs,H,aH⟩:=H;rw[yJ h H aI]
 have aj:∀d o,σs.get d=some o->Z.get d=some o:=λd o hd=>by
  obtain⟨p,S,X,aa⟩:=nX σs d o hd;rw[az d (by rw[<-X];exact dg.2 ⟨p,S,rfl⟩),<-X,<-aa];exact aq p S
 have pW:=Y.sub aj;have aJ:=nT _ _ _ _ (u2 ev aw args.toList λx ao=>hop x (by simp only[h,Op.operands,Call.operands];simp;right;simpa using ao)) aH;have aK:=ak.rep pW _ aJ;have ae:∀p∈ch,Z.get p.1=some p.2:=λp an=>aj _ _ (aA p an);have ax:=Y.mQ (P:=G.P) ae;refine hV (aB _ w I β _ ax aK) ?_;rintro e w' ⟨v,aT,aV,O,ag,aX,⟨aL,aG⟩,aC,ay⟩;subst aL aG;obtain⟨aR,Q,aW⟩:=Y.after ae ay [] (by simp) (aFL _) aN;refine⟨v,aT,ag,β,?_,?_,Q,λ_ _=>rfl⟩
 .exact a1.rep β _ _ (aD.closed aV v am aC)
 .refine({aR with}:bE G cx ag β (O++Z.minus O.ids) w').sub λd o hd=>?_;rw[aFy,aFh];cases Q:O.get d with
  |some aE=>
   obtain⟨p,S,X,aa⟩:=nX O d aE Q;have:=ae p S;rw[X,aa,hd]at this;simpa using this.symm
  |none=>
   have:d∉O.ids:=λaU=>by have:=aF6 aU;rw[Q]at this;cases this
   simp[this,hd]
def D.call{S:Operand}{args:Array Operand}{k:Array TypeId}{f:FuncId}{aY cM:List U}{ch:ah}{Post:U->ah->Prop}(news:cR)(h:o.op=.call ⟨.value S,args,k⟩)(ag:ev S=.fn f aY)
  (ay:∀(args:ig) (w:World),(callFunc f args).run G.P w=.ok (.enter f args) w) (Y:∀p∈ch,σ.get p.1=some p.2) (Z:jR σ (args.toList.map ev++aY) cM)
  (aB:cz G.au G.P f ch cM Post) (aE:news.all (λd=>!G.ids.contains d&&(σ.get d).isNone)=true) (an:(σ.minus ch.ids).clean news.contains=true)
  (ar:∀r σ2,Post r σ2->r.refs (λd=>!(ch.ids++news).contains d)=false/\σ2.clean (λd=>!(ch.ids++news).contains d)=true) :
  fO G o ev σ (ch.ids++news) news (λr aa=>∃σ2,Post r σ2/\aa=σ2++σ.minus ch.ids):=by
 intro cx I β w ak O hop;have H:=hop S (by simp[h,Op.operands,Call.operands]);rw[ag]at H;simp only[aD]at H;obtain⟨vs,H,ax⟩:=H;rw[yJ h H ay];have az:=nT _ _ _ _ (u2 ev ak args.toList λx ab=>hop x (by simp only[h,Op.operands,Call.operands];simp;right;simpa using ab)) ax;have aA:=Z.rep O _ az;have am:=O.mQ (P:=G.P) Y
 have aC:∀d∈news,d∉G.ids/\σ.get d=none:=λd hd=>by
  have:=gE.1 aE d hd;simpa using this
 refine hV (aB _ w I β _ am aA) ?_;rintro e w' ⟨v,aH,r,σ2,aj,aI,X,aq,ao⟩;obtain⟨dJ,bz⟩:=ar r σ2 X;obtain⟨aG,Q,ae⟩:=O.after Y ao news aC an bz;refine⟨v,aH,r,_,aj,_,⟨σ2,X,rfl⟩,ae r v dJ aq,aG,Q,λd hd=>by simp[hd],λd hd=>?_⟩;have hd:d∉ch.ids/\d∉news:=by simpa using hd
 rw[aFy,aFh,bw hd.1];cases Q:σ2.get d with
 |some aw=>
  have:=(aFi bz d aw Q).1;have:(ch.ids++news).contains d=true:=by rw[<-qz];exact this
  exact absurd (dG.1 (ua.1 this)) (by simp[hd.1,hd.2])
 |none=>rfl
def Jb{w:World}{b off:Nat}{aZ:TypeId}{arr:ig}(a:w.heap[b]?=some (.cells arr aZ (0,0)))(vs:hD)(c:off+vs.length<=arr.size)(d:∀v∈vs,v.oneCell'=true):
  (storeCells ⟨b,off,none⟩ vs).run P w=.ok () (w.setRow b (gy arr.toList off vs).toArray):=by
 have:=run_storeCells_at P b off aZ vs 0 arr w a (by simpa using c) d;simpa [gy]using this
def Wk{I:a8}{β:Nat->Value}{cs c:List U}{vs a:hD}(off:Nat)(h:bD I β cs vs)(b:bD I β c a):bD I β (gy cs off c) (gy vs off a):=by
 unfold gy;rw[nS _ _ b];exact nT _ _ _ _ (nT _ _ _ _ (yd _ _ _ h) b) (yc _ _ _ h)
def ah.set(d:Nat)(o:b4):ah->ah
 |[]=>[]
 |(k,x)::r=>bif Nat.beq k d then(k,o)::r else(k,x)::ah.set d o r
theorem aFf(d:Nat)(o:b4):∀(σ:ah) (x:Nat),(ah.set d o σ).get x=if x=d then(σ.get d).map λ_=>o else σ.get x
 |[],x=>by simp[ah.set,ah.get]
 |(k,y)::r,x=>by
  simp only[ah.set];by_cases a:k=d
  .subst a;simp only[Nat.beq_refl,cm,aFc]
   grind
  .have:Nat.beq k d=false:=by rw[<-mM,n9];exact a
   simp only[this,bH,aFc,aFf d o r x]
   grind
def aF3{T aZ d p n:Nat}{x y:Operand}{a:U}{cs:List U}(h:o.op=.store T x y)(b:ev x=.ptr d p)(E:ev y=a)(k:σ.get d=some (.cells aZ cs))(A:∀w,(sizeOf T).run G.P w=.ok n w)
  (H:a.flat=true) (S:(i2 a).length=n) (Q:p+n<=cs.length) :
  fO G o ev σ [d] [] (λr C=>r=.undef/\C=σ.set d (.cells aZ (gy cs p (i2 a)))):=by
 intro cx I β w f i z;have e:=z x (by simp[h,Op.operands]);rw[b]at e
 have m:=z y (by simp[h,Op.operands]);rw[E]at m
 simp only[aD]at e;obtain⟨c,e,F⟩:=e;obtain⟨v,B,t,q,j,s⟩:=i.box k e;obtain⟨f1,f2⟩:=aFQ H m;have M:=nS _ _ q;have L:=nS _ _ f1;simp only[kr]at M L;have K:=Jb (P:=G.P) t (f y).cells.toList (off:=p) (by simp;omega) f2;have J:(execOp f o).run G.P w=.ok .skip (w.setRow c (gy v.toList p (f y).cells.toList).toArray):=by
  have O:¬((f y).cells.size≠n):=by omega
  simp[execOp,h,F,Instr.storeAt,Instr.sureAddr,storeVar,A,O,K]
 rw[J];refine⟨.undef,_,I,β,⟨rfl,rfl⟩,by simp[aD,a1],?_,b1.refl I,λ_ _=>rfl,λx b=>by rw[aFf,bw (by simpa using b)]⟩;have u:bR (β d)=some c:=e
 refine i.turn (d:=d) (fR.setRow w c _) s (λx b=>by rw[aFf,bw b]) (λx b D N=>i.cQ x d D (by rw[k];rfl) b c N (i4 u)) (b1.refl I) (λ_ _ _=>rfl)
  (λo V l=>by rw[j o]at l;cases l) (j none) (λ_ _=>rfl) (.inr rfl) (fQ.refl β) (.inl u) λR g=>?_
 rw[aFf,bx rfl,k]at g;injection g with g
 subst g;simp only[bl];exact .inr ⟨c,_,B,kf w c v _ aZ _ t,by simpa using Wk p q f1,j,s⟩
end ops
end
section
structure DC(P:Program)(T E sz bytes:Nat):Prop where
 fz:P.underlying T=some (.slice E)
 info:∃i z,P.info? E=some i/\i.zero=some z/\i.size=sz/\i.bytes=bytes/\z.cells.size=sz
 pos:0<sz
theorem xZ{I:a8}{b:Nat}{w:World}(d:∀b (o:Nat) v,I b o=some v->w.cell? ⟨b,o,none⟩=some v):∀(xs:List (List U)) (o:Nat),fT I b xs o->
  ∃vs:hD,bP I xs.flatten vs/\∀j v,vs[j]?=some v->w.cell? ⟨b,o+j,none⟩=some v
 |[],o,_=>⟨[],rfl,λj v a=>by simp at a⟩
 |e::r,o,a=>by
  simp only[fT]at a;obtain⟨vs,f,l⟩:=FM d e o a.1;obtain⟨c,g,m⟩:=xZ d r (o+e.length) a.2;have i:=jG _ _ f;refine⟨vs++c,by simp only[kk];exact(h8 _ _ _).2 ⟨vs,c,rfl,f,g⟩,λj v k=>?_⟩;rcases Nat.lt_or_ge j vs.length with h|h
  .grind
  .grind
def yA{I:a8}:∀(cs:List U) (vs:hD),cs.all U.one=true->bP I cs vs->∀v∈vs,v.oneCell'=true:=λcs vs a b=>
 Gn (β:=λ_=>undef) cs vs a (bP.rep _ cs vs b)
section ops
variable {G:bI}{o:Oper}{ev:Operand->U}{σ:ah}
variable {P:Program}{w:World}
def lQ{o:Oper}{s x:Operand}{t:Nat}{a:Operand->Value}{w':World}{b:Value}(h:o.op=.call ⟨.builtin .append,#[s,x],#[t,t]⟩)(c:(Builtin.append_ #[t,t] o.type #[a s,a x]).run P w=.ok b w'):
  (execOp a o).run P w=.ok (.value b) w':=by
 simp[execOp,h,resolve,invoke,builtin,c]
theorem Wl{α:Type}(L news:List α)(n j:Nat)(a:j<n)(b:n<=L.length):(L.take n++news++L.drop (n+news.length))[j]?=L[j]?:=by grind
theorem D.append{s x:Operand}{T E sz bytes d d2 aZ k:Nat}{f bL:Bool}{xs ys:List (List U)}(h:o.op=.call ⟨.builtin .append,#[s,x],#[T,T]⟩)(bU:ev s=.own d)(hd:σ.get d=some (.slice aZ sz xs k bL))(H:gp σ (ev x) (.bn f ys))(am:DC G.P T E sz bytes)(b9:aZ=E)
  (aU:∀e∈ys,e.length=sz) (cG:ys.flatten.all U.one=true) (a7:(xs.length+ys.length)*bytes<=140737488355328) (bG:xs.length+ys.length<=maxLen) (hi:G.ids.contains d2=false)
  (b0:(σ.minus [d]).clean [d2].contains=true) :
  fO G o ev σ [d,d2] [d2] (λr ax=>r=.own d2/\ax=(d2,.slice aZ sz (xs++ys) k false)::σ.minus [d]):=by
 subst b9;intro cx I β w bb Q hop;have Y:=hop s (by simp[h,Op.operands,Call.operands]);rw[bU]at Y;simp only[aD]at Y;obtain⟨Y,be⟩:=Y;have ag:=H.rep Q _ (hop x (by simp[h,Op.operands,Call.operands]));simp only[aD,a1]at ag;obtain⟨a,c,ag,cO,cV,_,cf⟩:=ag;obtain⟨i,z,ay,bs,ar,bD,cw⟩:=am.info;have cb:∃O:hD,bP I ys.flatten O/\(ys.length=0\/∃ad:Addr,a=some ad/\∀j u,O[j]?=some u->w.cell? (ad.add j)=some u):=by
  rcases cf with rfl|⟨b,o,rfl,ae⟩
  .exact⟨[],rfl,.inl rfl⟩
  .obtain⟨vs,an,aC⟩:=xZ Q.good ys o ae;exact⟨vs,an,.inr ⟨_,rfl,λj u cI=>by rw[i5];exact aC j u cI⟩⟩
 obtain⟨O,aJ,aT⟩:=cb;have ab:O.length=ys.length*sz:=by rw[jG _ _ aJ];exact p4 ys aU
 have cm:=yA _ _ cG aJ;have aR:xs.length+ys.length<=9223372036854775807:=by simp only[maxLen]at bG;omega
 have bz:bE G cx I β (σ.minus [d]) w:=Q.sub λx ao H=>by rw[aFh]at H;split at H<;>first|cases H|exact H
 have ca:=bz.pR (c7:=[d2]) (σ2:=(d2,.slice aZ sz (xs++ys) k false)::σ.minus [d]) (env:=[]) ⟨λx H=>by rw[aFc,bw (λe=>H (by simp[e]))],λx H=>by simp at H;subst H;simpa using hi,rfl,b0,λx H o h=>by simp at H;subst H;rw[aFc,bx rfl]at h;cases h;rfl⟩;have bo:∀x,x≠d2->gV β [d2] x=β x:=λx H=>by simp[gV,H]
 have aA:∀(Z:Value) (w':World) (b:Nat),(execOp bb o).run G.P w=.ok (.value Z) w'->gU Z=true->fR w w' b->Place cx b->(∀x,((σ.minus [d]).get x).isSome->b∉ct (β x))->
   (∀(o:Nat) v,I b o=some v->w'.cell? ⟨b,o,none⟩=some v)->I b none=none->(bR Z=some b\/ct Z=[])->bl cx I (gA β d2 Z) w' d2 (.slice aZ sz (xs++ys) k false)->
   jb G.P (λv w'=>∃(bN:U) (ax:ah) (aL:a8) (a5:Nat->Value),(bN=.own d2/\ax=(d2,b4.slice aZ sz (xs++ys) k false)::σ.minus [d])/\aD aL a5 bN v/\bE G cx aL a5 ax w'/\b1 I aL/\(∀x,x∉[d2]->a5 x=β x)/\(∀x,x∉[d,d2]->ax.get x=σ.get x)) ((execOp bb o).run G.P w):=by
  intro Z w' b b2 fB aB bT cW cv cr aq cN;rw[b2];refine⟨.own d2,_,I,gA β d2 Z,⟨rfl,rfl⟩,by simp only[aD,gb,fB,and_self],?_,b1.refl I,λx H=>gx β Z (by simpa using H),λx H=>?_⟩
  .refine ca.turn (d:=d2) aB bT (λ_ _=>rfl) (λx H aR e=>?_) (b1.refl I) (λ_ _ _=>rfl) cv cr (λx H=>by rw[gx β Z H,bo x H]) (.inl (by simpa using hi)) (λx=>?_) (by rw[gb];exact aq) (λao cj=>?_)
   .rw[aFc,bw (et H)]at aR
    grind
   .by_cases H:x=d2
    .left;simp[gV,H]
    .right;rw[gx β Z H,bo x H]
   .rw[aFc,bx rfl]at cj
    grind
  .have H:x≠d/\x≠d2:=by simpa using H
   rw[aFc,bw (et H.2),aFh,bw (by simpa using H.1)]
 have bt:∀b,bR (β d)=some b->∀x,((σ.minus [d]).get x).isSome->b∉ct (β x):=λb aq x H e=>by
  rw[aFh]at H;split at H
  .cases H
  .rename_i b6;exact Q.cQ x d H (by rw[hd];rfl) (by simpa using b6) b e (i4 aq)
 have aW:∀x,((σ.minus [d]).get x).isSome->w.heap.size∉ct (β x):=λx H e=>by
  obtain⟨ao,H⟩:=hZ.1 H;exact absurd (bz.rB H e) (by omega)
 have a2:I w.heap.size none=none:=Q.ij (eb _) none;have a4:∀(w':World) (o:Nat) v,I w.heap.size o=some v->w'.cell? ⟨w.heap.size,o,none⟩=some v:=λw' o v S=>by rw[Q.ij (eb _)]at S;cases S
 have bH:∀old,old<xs.length+ys.length->xs.length+ys.length<=grownCap w (xs.length+ys.length) old aZ/\grownCap w (xs.length+ys.length) old aZ<=maxLen:=λold _=>⟨grownCap_ge _ _ _ _,v5 _ _ _ _ bG⟩
 have bF:∀(ak:hD) (aY:Nat),bP I xs.flatten ak->ak.length=xs.length*sz->(∀e∈xs,e.length=sz)->k<=xs.length->xs.length+ys.length<=aY->aY<=maxLen->
   bl cx I (gA β d2 (.slice (some ⟨w.heap.size,0,none⟩) (xs.length+ys.length) aY)) (w.drew.alloc (.cells (ak.toArray++O.toArray++Builtin.zeroCells z.cells (aY-(xs.length+ys.length))) aZ)) d2 (.slice aZ sz (xs++ys) k false):=by
  intro ak aY b3 bv cy cJ cp ce;simp only[bl,gb];have bj:(ak++O).length=(xs++ys).length*sz:=by rw[dF,dF,bv,ab,ha]
  refine .inr (.inr ⟨w.heap.size,aY,_,by rw[dF],by rw[dF];exact cp,ce,pf w.drew _,?_,?_,?_,by rw[dF];omega,by simp,λo _=>Q.ij (eb _) o,.inl Q.size⟩)
  .simp only[ye,pe,size_zeroCells,cw,bv,ab,<-ha];congr 1;omega
  .have:(ak.toArray++O.toArray++Builtin.zeroCells z.cells (aY-(xs.length+ys.length))).toList.take ((xs++ys).length*sz)=ak++O:=by grind
   rw[this,qC];exact(h8 _ _ _).2 ⟨_,_,rfl,b3,aJ⟩
  .intro e X;rcases dG.1 X with X|X
   .exact cy e X
   .exact aU e X
 have bJ:∀ao,fR w (w.drew.alloc ao) w.heap.size:=λao=>(fR.alloc w.drew ao).drew;have a9:=Q.bY d _ hd;simp only[bl]at a9;rcases a9 with q|⟨q,rfl,rfl⟩|⟨b,aY,arr,an,aC,bZ,aa,ba,bi,bc,bh,cP,bk,aN⟩
 .rw[q]at Y;rw[Y]at be;simp[gU]at be
 ·
  rcases vY ys.length with aj|aj
  .have aK:ys=[]:=mN aj;subst aK;refine aA (.slice none 0 0) w w.heap.size (lQ h ?_) rfl ⟨λ_ _ _=>rfl,eb _,rfl,rfl,rfl,eb _⟩ (.inl Q.size) aW (a4 w) a2 (.inr rfl) ?_
   .rw[Y,ag,q];cases a<;>simp[Builtin.append_,ja am.fz,Go.sizeOf,typeInfo,ay,Builtin.lenOf,Builtin.firstCells,loadCells,loadCellsFrom]
   .simp only[bl,gb];exact .inr (.inl ⟨trivial,rfl,trivial⟩)
  .obtain⟨ad,rfl,az⟩:=aT.resolve_left (by omega);have ae:=run_append_nil (P:=G.P) w T o.type aZ i z am.fz ay bs ad ys.length c O (by rw[ar];exact ab) az aj (by simp at aR;omega) (by simp at a7;rw[bD];omega);obtain⟨aH,aG⟩:=bH 0 (by simp;exact aj);simp only[hP,hR]at aH aG;refine aA _ _ w.heap.size (lQ h (by rw[Y,ag,q];exact ae)) rfl (bJ _) (.inl Q.size) aW (a4 _) a2 (.inl rfl) ?_;have:=bF [] (grownCap w ys.length 0 aZ) rfl (by simp) (by simp) (eb _) (by simpa using aH) aG;simpa using this
 .have aq:bR (β d)=some b:=by rw[an];rfl
  have cL:=gZ aa;have aV:arr.toList.length=aY*sz:=by simpa using ba
  have aX:xs.length*sz<=arr.toList.length:=by rw[aV];exact hp _ aC
  have ch:∀(o:Nat) v,I b o=some v->o<xs.length*sz:=λo v S=>by
   rcases Nat.lt_or_ge o (k*sz)with aB|aB
   .exact vZ aB (hp _ bh)
   .rw[bk o aB]at S;cases S
  by_cases aI:xs.length+ys.length<=aY
  ·
   have bj:(arr.toList.take (xs.length*sz)++O).length=(xs++ys).length*sz:=by rw[dF,hg,o7 aX,dF,ab,ha]
   have bQ:∀(w':World) (aw:ig),w'.heap[b]?=some (.cells aw aZ (0,0))->aw.toList=arr.toList.take (xs.length*sz)++O++arr.toList.drop (xs.length*sz+O.length)->
     bl cx I (gA β d2 (.slice (some ⟨b,0,none⟩) (xs.length+ys.length) aY)) w' d2 (.slice aZ sz (xs++ys) k false):=by
    intro w' aw bW X;simp only[bl,gb];refine .inr (.inr ⟨b,aY,aw,by rw[dF],by rw[dF];exact aI,bZ,bW,?_,?_,?_,by rw[dF];omega,by simp,bk,aN⟩)
    .have cK:xs.length*sz+O.length<=arr.toList.length:=by rw[ab,<-ha,aV];exact hp _ aI
     have cz:aw.size=aw.toList.length:=by simp
     rw[cz,X,<-aV];simp only[dF,hg,l2];omega
    .rw[X,<-bj,List.take_left,qC];exact(h8 _ _ _).2 ⟨_,_,rfl,bi,aJ⟩
    .intro e X;rcases dG.1 X with X|X
     .exact bc e X
     .exact aU e X
   rcases vY ys.length with aj|aj
   .have aK:ys=[]:=mN aj;subst aK;have cB:O=[]:=mN (by simpa using ab);subst cB;refine aA (.slice (some ⟨b,0,none⟩) xs.length aY) w b (lQ h ?_) rfl ⟨λ_ _ _=>rfl,eb _,rfl,rfl,rfl,eb _⟩ aN (bt b aq) (λo v S=>Q.good b o v S) (Q.oQ aa) (.inl rfl) ?_
    .rw[Y,ag,an];cases a<;>simp[Builtin.append_,ja am.fz,Go.sizeOf,typeInfo,ay,Builtin.lenOf,Builtin.firstCells,loadCells,loadCellsFrom,aC,storeCells]
    .have:=bQ w arr aa (by simp);simpa using this
   .obtain⟨ad,rfl,az⟩:=aT.resolve_left (by omega);have cd:xs.length*i.size+O.length<=arr.size:=by rw[ar,ab,ba,<-ha];exact hp _ aI
    have ae:=run_append_room (P:=G.P) w T o.type aZ i am.fz ay b xs.length aY arr aa ad ys.length c O (by rw[ar];exact ab) az cm aI cd;rw[ar]at ae;refine aA _ _ b (lQ h (by rw[Y,ag,an];exact ae)) rfl (fR.setRow w b _) aN (bt b aq) (λo v S=>?_) (Q.oQ aa) (.inl rfl) (bQ _ _ (kf w b arr _ aZ _ aa) rfl);have aE:=Q.good b o v S;simp only[World.cell?,aa]at aE;simp only[World.cell?,kf w b arr _ aZ _ aa];have aE:arr.toList[o]?=some v:=by simpa using aE
    have:=Wl arr.toList O (xs.length*sz) o (ch o v S) aX;rw[aE]at this;simpa using this
  ·
   have aj:0<ys.length:=by omega
   obtain⟨ad,rfl,az⟩:=aT.resolve_left (by omega);have bB:(arr.toList.take (xs.length*sz)).length=xs.length*sz:=by rw[hg,o7 aX]
   have ci:∀j v,(arr.toList.take (xs.length*sz))[j]?=some v->w.cell? ((⟨b,0,none⟩:Addr).add j)=some v:=λj v S=>by
    rw[i5];rw[l8]at S;split at S
    .simp only[World.cell?,aa,hR];simpa using S
    .cases S
   have ae:=run_append_grow (P:=G.P) w T o.type aZ i z am.fz ay bs ⟨b,0,none⟩ xs.length aY _ (by rw[ar];exact bB) ci ad ys.length c O (by rw[ar];exact ab) az (by omega) (by omega) (growslice_fits (by omega) (by rw[bD];exact a7));obtain⟨aH,aG⟩:=bH aY (by omega);exact aA _ _ w.heap.size (lQ h (by rw[Y,ag,an];exact ae)) rfl (bJ _) (.inl Q.size) aW (a4 _) a2 (.inl rfl) (bF _ _ bi bB bc bh aH aG)
theorem aGq{s x:Operand}{T E sz bytes d2:Nat}{f:Bool}{xs ys:List (List U)}(h:o.op=.call ⟨.builtin .append,#[s,x],#[T,T]⟩)(F:(ev s=.aF/\xs=[])\/(ev s=.bn true xs/\0<ys.length))(a:gp σ (ev x) (.bn f ys))(z:DC G.P T E sz bytes)
  (aC:∀e∈xs,e.length=sz) (aA:∀e∈ys,e.length=sz) (bz:ys.flatten.all U.one=true) (O:(xs.length+ys.length)*bytes<=140737488355328) (aB:xs.length+ys.length<=maxLen) (hi:G.ids.contains d2=false)
  (aT:σ.clean [d2].contains=true) :
  fO G o ev σ [d2] [d2] (λr D=>r=.own d2/\D=(d2,.slice E sz (xs++ys) 0 false)::σ):=by
 intro aj g n w ao j aH;have c:=aH s (by simp[h,Op.operands,Call.operands]);have q:=a.rep j _ (aH x (by simp[h,Op.operands,Call.operands]));simp only[aD,a1]at q;obtain⟨an,X,q,bk,bs,_,a5⟩:=q;obtain⟨Y,C,I,R,J,S,ba⟩:=z.info;have a2:∃b:hD,bP g ys.flatten b/\(ys.length=0\/∃p:Addr,an=some p/\∀B aa,b[B]?=some aa->w.cell? (p.add B)=some aa):=by
  rcases a5 with rfl|⟨aE,o,rfl,i⟩
  .exact⟨[],rfl,.inl rfl⟩
  .obtain⟨bi,aJ,aL⟩:=xZ j.good ys o i;exact⟨bi,aJ,.inr ⟨_,rfl,λB aa bh=>by rw[i5];exact aL B aa bh⟩⟩
 obtain⟨b,ax,aw⟩:=a2;have A:b.length=ys.length*sz:=by rw[jG _ _ ax];exact p4 ys aA
 have K:xs.length+ys.length<=9223372036854775807:=by simp only[maxLen]at aB;omega
 have aZ:=j.pR (c7:=[d2]) (σ2:=(d2,.slice E sz (xs++ys) 0 false)::σ) (env:=[]) ⟨λx a=>by rw[aFc,bw (λe=>a (by simp[e]))],λx a=>by simp at a;subst a;simpa using hi,rfl,aT,λx a o h=>by simp at a;subst a;rw[aFc,bx rfl]at h;cases h;rfl⟩;have ar:∀x,x≠d2->gV n [d2] x=n x:=λx a=>by simp[gV,a]
 have bt:∀x,(σ.get x).isSome->w.heap.size∉ct (n x):=λx a e=>by
  obtain⟨H,a⟩:=hZ.1 a;exact absurd (j.rB a e) (by omega)
 have bb:g w.heap.size none=none:=j.ij (eb _) none;have bc:∀(m:World) (o:Nat) y,g w.heap.size o=some y->m.cell? ⟨w.heap.size,o,none⟩=some y:=λm o y Q=>by rw[j.ij (eb _)]at Q;cases Q
 have M:∀(k:Value) (m:World),(execOp ao o).run G.P w=.ok (.value k) m->gU k=true->fR w m w.heap.size->(bR k=some w.heap.size\/ct k=[])->bl aj g (gA n d2 k) m d2 (.slice E sz (xs++ys) 0 false)->
   jb G.P (λy m=>∃(aG:U) (D:ah) (ab:a8) (am:Nat->Value),(aG=.own d2/\D=(d2,b4.slice E sz (xs++ys) 0 false)::σ)/\aD ab am aG y/\bE G aj ab am D m/\b1 g ab/\(∀x,x∉[d2]->am x=n x)/\(∀x,x∉[d2]->D.get x=σ.get x)) ((execOp ao o).run G.P w):=by
  intro k m aW fB be aU bj;rw[aW];refine⟨.own d2,_,g,gA n d2 k,⟨rfl,rfl⟩,by simp only[aD,gb,fB,and_self],?_,b1.refl g,λx a=>gx n k (by simpa using a),λx a=>?_⟩
  .refine aZ.turn (d:=d2) be (.inl j.size) (λ_ _=>rfl) (λx a K e=>?_) (b1.refl g) (λ_ _ _=>rfl) (bc m) bb (λx a=>by rw[gx n k a,ar x a]) (.inl (by simpa using hi)) (λx=>?_) (by rw[gb];exact aU) (λH a7=>?_)
   .rw[aFc,bw (et a)]at K
    grind
   .by_cases a:x=d2
    .left;simp[gV,a]
    .right;rw[gx n k a,ar x a]
   .rw[aFc,bx rfl]at a7
    grind
  .have a:x≠d2:=by simpa using a
   rw[aFc,bw (et a)]
 have ag:∀Z,Z<xs.length+ys.length->xs.length+ys.length<=grownCap w (xs.length+ys.length) Z E/\grownCap w (xs.length+ys.length) Z E<=maxLen:=λZ _=>⟨grownCap_ge _ _ _ _,v5 _ _ _ _ aB⟩
 have V:∀(l:hD) (aY:Nat),bP g xs.flatten l->l.length=xs.length*sz->xs.length+ys.length<=aY->aY<=maxLen->
   bl aj g (gA n d2 (.slice (some ⟨w.heap.size,0,none⟩) (xs.length+ys.length) aY)) (w.drew.alloc (.cells (l.toArray++b.toArray++Builtin.zeroCells C.cells (aY-(xs.length+ys.length))) E)) d2 (.slice E sz (xs++ys) 0 false):=by
  intro l aY aX ay a9 a4;simp only[bl,gb];have bo:(l++b).length=(xs++ys).length*sz:=by rw[dF,dF,ay,A,ha]
  refine .inr (.inr ⟨w.heap.size,aY,_,by rw[dF],by rw[dF];exact a9,a4,pf w.drew _,?_,?_,?_,by omega,by simp,λo _=>j.ij (eb _) o,.inl j.size⟩)
  .simp only[ye,pe,size_zeroCells,ba,ay,A,<-ha];congr 1;omega
  .have:(l.toArray++b.toArray++Builtin.zeroCells C.cells (aY-(xs.length+ys.length))).toList.take ((xs++ys).length*sz)=l++b:=by grind
   rw[this,qC];exact(h8 _ _ _).2 ⟨_,_,rfl,aX,ax⟩
  .intro e N;rcases dG.1 N with N|N
   .exact aC e N
   .exact aA e N
 have W:∀H,fR w (w.drew.alloc H) w.heap.size:=λH=>(fR.alloc w.drew H).drew;rcases F with⟨F,rfl⟩|⟨F,v⟩
 .rw[F]at c;simp only[aD,a1]at c;rcases vY ys.length with v|v
  .have aK:ys=[]:=mN v;subst aK;refine M (.slice none 0 0) w (lQ h ?_) rfl ⟨λ_ _ _=>rfl,eb _,rfl,rfl,rfl,eb _⟩ (.inr rfl) ?_
   .rw[c,q];cases an<;>simp[Builtin.append_,ja z.fz,Go.sizeOf,typeInfo,I,Builtin.lenOf,Builtin.firstCells,loadCells,loadCellsFrom]
   .simp only[bl,gb];exact .inr (.inl ⟨trivial,rfl,trivial⟩)
  .obtain⟨p,rfl,L⟩:=aw.resolve_left (by omega);have i:=run_append_nil (P:=G.P) w T o.type E Y C z.fz I R p ys.length X b (by rw[J];exact A) L v (by simp at K;omega) (by simp at O;rw[S];omega);obtain⟨u,t⟩:=ag 0 (by simp;exact v);simp only[hP,hR]at u t;refine M _ _ (lQ h (by rw[c,q];exact i)) rfl (W _) (.inl rfl) ?_;have:=V [] (grownCap w ys.length 0 E) rfl (by simp) (by simpa using u) t;simpa using this
 .rw[F]at c;simp only[aD,a1]at c;obtain⟨aV,bv,c,_,_,ae,ak⟩:=c;have ae:=ae trivial;subst ae;obtain⟨p,rfl,L⟩:=aw.resolve_left (by omega);rcases ak with rfl|⟨aE,aI,rfl,ak⟩
  ·
   obtain⟨u,t⟩:=ag 0 (by simp;exact v);simp only[hP,hR]at u t;cases aV with
   |none=>
    have i:=run_append_nil (P:=G.P) w T o.type E Y C z.fz I R p ys.length X b (by rw[J];exact A) L v (by simp at K;omega) (by simp at O;rw[S];omega);refine M _ _ (lQ h (by rw[c,q];exact i)) rfl (W _) (.inl rfl) ?_;have:=V [] (grownCap w ys.length 0 E) rfl (by simp) (by simpa using u) t;simpa using this
   |some aN=>
    have i:=run_append_grow (P:=G.P) w T o.type E Y C z.fz I R aN 0 0 [] (by simp) (by simp) p ys.length X b (by rw[J];exact A) L (by omega) (by simp at K;omega) (growslice_fits (by omega) (by rw[S];simpa using O));simp only[hR]at i;refine M _ _ (lQ h (by rw[c,q];exact i)) rfl (W _) (.inl rfl) ?_;have:=V [] (grownCap w ys.length 0 E) rfl (by simp) (by simpa using u) t;simpa using this
  .obtain⟨l,aq,aR⟩:=xZ j.good xs aI ak;have az:l.length=xs.length*sz:=by rw[jG _ _ aq];exact p4 xs aC
   have i:=run_append_grow (P:=G.P) w T o.type E Y C z.fz I R ⟨aE,aI,none⟩ xs.length xs.length l (by rw[J];exact az) (λB y Q=>by rw[i5];exact aR B y Q) p ys.length X b (by rw[J];exact A) L (by omega) (by omega) (growslice_fits (by omega) (by rw[S];exact O));obtain⟨u,t⟩:=ag xs.length (by omega);exact M _ _ (lQ h (by rw[c,q];exact i)) rfl (W _) (.inl rfl) (V _ _ aq az u t)
def bB.makeFunc{f:FuncId}{aY:Array Operand}(h:o.op=.makeFunc (.func f) #[] aY):Yields G o ev σ [] [] (.fn f (aY.toList.map ev)):=
 .pure λS cx I β w H X Q hop=>by
  refine⟨.func (.func f) #[] (aY.map H),by simp[execOp,h,Instr.makeFunc],?_⟩;simp only[aD];exact⟨_,rfl,by simpa using u2 ev H aY.toList λx O=>hop x (by simp only[h,Op.operands];simpa using O)⟩
structure v8(P:Program)(T f off n:Nat)(b5:Bool):Prop where
 run:∀(cs:ig) w,off+n<=cs.size->(Instr.field T (.agg cs) f).run P w=.ok (if b5 then .agg (cs.extract off (off+n))else cs.getD off undef) w
 pos:b5=false->n=1
def bB.field{T f off n:Nat}{b5:Bool}{x:Operand}{cs:List U}(h:o.op=.field T x f)(Z:ev x=.agg cs)(O:v8 G.P T f off n b5)(X:Nat.ble (off+n) cs.length=true):Yields G o ev σ [] [] (jZ b5 n (cs.drop off)):=
 .pure λae cx I β w aj ak aa hop=>by
  have H:=hop x (by simp[h,Op.operands]);rw[Z]at H
  simp only[aD]at H;obtain⟨vs,H,Q⟩:=H;have Y:=nS _ _ Q;simp only[kr]at Y;have X:off+n<=cs.length:=by simpa using X
  have hd:=yc off _ _ Q;refine⟨_,by simp only[execOp,h,H,fD,O.run vs w (by omega),gQ,jq];rfl,?_⟩;cases b5 with
  |true=>
   simp only[jZ,cm,fE,aD];refine⟨_,rfl,?_⟩;have:=yd n _ _ hd;simpa [Array.toList_extract,List.extract_eq_take_drop]using this
  |false=>
   simp only[jZ,bH,pL,h0];have ab:=O.pos rfl;have S:off<vs.size:=by omega
   have e:vs.toList.drop off=vs[off]::vs.toList.drop (off+1):=by rw[r3 (by simpa using S)];simp
   rw[e]at hd;rw[vb,qj S];generalize cs.drop off=cq at hd;cases cq with
   |nil=>simp[aD]
   |cons y r=>
    simp only[bD]at hd;obtain⟨u,ag,e,hd,_⟩:=hd;cases e;exact hd
def Fi{I:a8}{b sz:Nat}:∀(l:Nat) (xs:List (List U)) (o:Nat),(∀e∈xs,e.length=sz)->fT I b xs o->fT I b (xs.drop l) (o+l*sz)
 |0,xs,o,_,h=>by simpa using h
 |l+1,[],o,_,_=>by simp[fT]
 |l+1,e::r,o,a,h=>by
  simp only[fT]at h;have d:=a e (by simp);have:=Fi l r (o+e.length) (λf c=>a f (by simp[c])) h.2;rw[d]at this;rw[ha,qv];simpa [mD,Nat.add_comm sz]using this
def Fy{I:a8}{b:Nat}:∀(h:Nat) (xs:List (List U)) (o:Nat),fT I b xs o->fT I b (xs.take h) o
 |0,_,_,_=>by simp[fT]
 |h+1,[],_,_=>by simp[fT]
 |h+1,e::r,o,a=>by
  simp only[fT,List.take_succ_cons]at a ⊢;exact⟨a.1,Fy h r _ a.2⟩
def run_sliceBound{k:IntKind}{n:Int}{y:Nat}{code:BoundsCode}(h:0<=n/\n<=(y:Int)):(Instr.sliceBound (.int k n) y code).run P w=.ok n.toNat w:=by
 unfold Instr.sliceBound;simp only[asIntOf,fD,jq,gQ];rw[bx h];rfl
def jc(ev:Operand->U):Option Operand->Int|none=>0|some x=>match ev x with|.int _ n=>n|_=>-1
def nA(ev:Operand->U)(len:Nat):Option Operand->Int|none=>len|some x=>match ev x with|.int _ n=>n|_=>-1
def tD{I:a8}{β:Nat->Value}{b:Operand->Value}{x:Operand}(h:∃k n,ev x=.int k n)(a:aD I β (ev x) (b x)):∃k n,ev x=.int k n/\b x=.int k n:=by
 obtain⟨k,n,h⟩:=h;rw[h]at a;exact⟨k,n,h,g1 a⟩
def rG(ev:Operand->U):Option Operand->Prop|none=>True|some x=>∃k n,ev x=.int k n
theorem bB.slice{T E sz:Nat}{x:Operand}{f:Bool}{lo hi:Option Operand}{xs:List (List U)}(h:o.op=.slice T x lo hi none)(aG:gp σ (ev x) (.bn f xs))(ab:lJ G.P T E sz)(ar:∀e∈xs,e.length=sz)(am:rG ev lo)(az:rG ev hi)
  (fK:0<=jc ev lo/\jc ev lo<=nA ev xs.length hi/\nA ev xs.length hi<=xs.length) (R:cR) (aq:∀Q:ah,(∀d∈R,Q.get d=σ.get d)->gp Q (ev x) (.bn f xs)) :
  Yields G o ev σ [] R (.bn false ((xs.take (nA ev xs.length hi).toNat).drop (jc ev lo).toNat)):=
 .pure λQ cx I β w aa ay ao hop=>by
  have S:=(aq Q ay).rep ao _ (hop x (by simp[h,Op.operands]));simp only[aD,a1]at S;obtain⟨a,c,S,aH,aI,_,Z⟩:=S;generalize H:jc ev lo=l at fK ⊢;generalize O:nA ev xs.length hi=u at fK ⊢;have aB:(Instr.sliceBounds true xs.length c (lo.map aa) (hi.map aa) none).run G.P w=.ok (l.toNat,u.toNat,c) w:=by
   have aE:0<=u/\u<=(c:Int):=by omega
   have aj:0<=l/\l<=(u.toNat:Int):=by omega
   cases hi with
   |none=>
    simp only[nA]at O;subst O;cases lo with
    |none=>
     simp only[jc]at H;subst H;simp[Instr.sliceBounds]
    |some y=>
     obtain⟨k,n,X,Y⟩:=tD am (hop y (by simp[h,Op.operands]));simp only[jc,X]at H;subst H;have:=run_sliceBound (P:=G.P) (k:=k) (code:=.sliceB) (w:=w) aj;simp only[rW]at this;simp[Instr.sliceBounds,Y,this]
   |some z=>
    obtain⟨aA,nz,ax,ag⟩:=tD az (hop z (by simp[h,Op.operands]));simp only[nA,ax]at O;subst O;have ae:=run_sliceBound (P:=G.P) (k:=aA) (code:=.sliceAcap) (w:=w) aE;cases lo with
    |none=>
     simp only[jc]at H;subst H;simp[Instr.sliceBounds,ag,ae]
    |some y=>
     obtain⟨k,n,X,Y⟩:=tD am (hop y (by simp[h,Op.operands]));simp only[jc,X]at H;subst H;have:=run_sliceBound (P:=G.P) (k:=k) (code:=.sliceB) (w:=w) aj;simp[Instr.sliceBounds,ag,ae,Y,this]
  have aw:(execOp aa o).run G.P w=.ok (.value (.slice (if c=l.toNat then a else a.map (·.add (l.toNat*sz))) (u.toNat-l.toNat) (c-l.toNat))) w:=by
   have aC:∀w,(underlying T).run G.P w=.ok (.slice E) w:=λw=>ja ab.fz w;simp only[execOp,h,Instr.sliceAt,Instr.slice,S,fD,aC,gQ,aB,ab.size,jq,Option.map_none]
  refine⟨_,aw,?_⟩;simp only[aD,a1];have ak:((xs.take u.toNat).drop l.toNat).length=u.toNat-l.toNat:=by rw[l2,hg];omega
  refine⟨_,c-l.toNat,by rw[ak],by rw[ak];omega,by omega,by simp,?_⟩;by_cases an:(xs.take u.toNat).drop l.toNat=[]
  .exact .inl an
  .right;have aJ:l.toNat<u.toNat:=by grind
   rcases Z with rfl|⟨b,p,rfl,Z⟩
   .simp at an
   .refine⟨b,p+l.toNat*sz,?_,Fi _ _ _ (λe O=>ar e (ue O)) (Fy _ _ _ Z)⟩;rw[bw (by omega)];simp[i5]
end ops
end
end Go.Proofs.YtemmkpdjmgafoaaGreatDoor
