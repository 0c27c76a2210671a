/- A part of the proof; the last text says of what. No condition but those that stand in each. -/
import Derived.Test.YtmnbolcmepihlaaGreatZ4
import Derived.Test.YtmnbolcmepihlaaGreatZ1
import Derived.Shelf.Sort.Plain
import Derived.Test.YtmnbolcmepihlaaGreatZ2
namespace Go.Proofs.YtmnbolcmepihlaaGreat
section
open Go
set_option maxRecDepth 100000
set_option linter.all false
section
noncomputable section
def sQ(n:Int):fz:=
 some ((decide (1<=n))&&(decide (n<=1000)))
def oH(t:aK)(c:Int):fz:=
 bZ t.aP 0 (λ(e:Int) (d:ck) (a:Unit->Option _) ()=>bif decide (d.b7=c)then some true else a ()) (λ(b:Unit)=>match b with|()=>some false) ()
def oD(t:aK)(b:Int)(c:Int):Option (Int×Bool):=
 bZ t.Links 0 (λ(f:Int) (a:bU) (d:Unit->Option _) ()=>bif ((decide (a.A=b))&&(decide (a.B=c)))then some (a.eE,true)else bif ((decide (a.B=b))&&(decide (a.A=c)))then some (a.eP,true)else d ()) (λ(e:Unit)=>match e with|()=>some ((0:Int),false)) ()
def nj(t:aK):fe:=
 bif ((decide (24<(t.aP.length:Int)))||(decide (60<(t.Links.length:Int))))then some (3:Int)else bZ t.aP 0 (λ(A:Int) (i:ck) (j:Unit->Option _) ()=>bif ((decide (i.b7<1))||(decide (99<i.b7)))then some (2:Int)else j ()) (λ(a:Unit)=>match a with|()=>bZ (List.drop 1 t.aP) 1 (λ(l:Int) (z:ck) (o:Unit->Option _) ()=>aj (bq t.aP (an ((l:Int)-(1:Int)))) λ(q:ck)=>bif decide (z.b7<=q.b7)then some (25:Int)else o ()) (λ(a:Unit)=>match a with|()=>bZ t.Links 0 (λ(B:Int) (c:bU) (s:Unit->Option _) ()=>jn (λ(r:Bool)=>bif r then some (2:Int)else s ()) λb=>aj (sQ c.eE) λ(n:Bool)=>(bif !n then b true else aj (sQ c.eP) λ(k:Bool)=>(bif !k then b true else(bif decide (c.lJ<0)then b true else b (decide (1000<c.lJ)))))) (λ(a:Unit)=>match a with|()=>bZ t.Links 0 (λ(C:Int) (h:bU) (w:Unit->Option _) ()=>jn (λ(u:Bool)=>bif u then some (4:Int)else w ()) λf=>aj (oH t h.A) λ(m:Bool)=>(bif !m then f true else aj (oH t h.B) λ(p:Bool)=>f (!p))) (λ(a:Unit)=>match a with|()=>bZ t.Links 0 (λ(D:Int) (g:bU) (x:Unit->Option _) ()=>bif decide (g.B<=g.A)then some (8:Int)else x ()) (λ(a:Unit)=>match a with|()=>bZ (List.drop 1 t.Links) 1 (λ(v:Int) (e:bU) (y:Unit->Option _) ()=>aj (bq t.Links (an ((v:Int)-(1:Int)))) λ(d:bU)=>bif ((decide (e.A<d.A))||((decide (d.A=e.A))&&(decide (e.B<=d.B))))then some (25:Int)else y ()) (λ(a:Unit)=>match a with|()=>some (0:Int)) ()) ()) ()) ()) ()) ()
end
end
section
noncomputable section
def jd(t:aK)(c:Int):fz:=
 aj (nj t) λ(b:Int)=>(bif decide (b=0)then aj (oH t c) λ(a:Bool)=>some a else some false)
def ql(t:aK)(c:Int)(d:Int):Option (Int×Bool):=
 aj (nj t) λ(b:Int)=>bif !decide (b=0)then some ((0:Int),false)else aj (oD t c d) λ(a:Int×Bool)=>some (a.1,a.2)
def sR(t:aK)(h:Int):h9:=
 bZ t.aP 0 (λ(i:Int) (c:ck) (d:(bH)->Option _) (a:(bH))=>jn (λ(g:(bH))=>d g) λb=>aj (oD t h c.b7) λ(f:Int×Bool)=>bif f.2 then aj (dP a ([c.b7]:bH)) λ(e:bH)=>b e else b a) (λ(a:(bH))=>some a) []
end
end
section
noncomputable section
def qa(a:Int):fz:=
 some (!decide (a=a))
def hB(a:Int)(y:Int):fe:=
 aj (qa a) λ(c:Bool)=>aj (qa y) λ(b:Bool)=>bif c then bif b then some (0:Int)else some (-1:Int)else bif b then some (1:Int)else bif decide (a<y)then some (-1:Int)else bif decide (y<a)then some (1:Int)else some (0:Int)
def ku(d:bH):fe:=
 bZ d 0 (λ(e:Int) (a:Int) (b:Unit->Option _) ()=>bif !decide (a=0)then some a else b ()) (λ(c:Unit)=>match c with|()=>some (0:Int)) ()
def rV(c:oK)(target:bU)(e:bU->bU->fe):Option (Int×Bool):=
 dn (λ(d:(Int×Int)->Option _) (a,b)=>bif decide (a<b)then aj (bq c (an (Int.fdiv (IntKind.wrap .u64 (an (a+b))) (2 ^ min (1:Int).toNat 64)))) λ(h:bU)=>aj (e h target) λ(g:Int)=>bif decide (g<0)then d (an ((an (Int.fdiv (IntKind.wrap .u64 (an (a+b))) (2 ^ min (1:Int).toNat 64)))+(1:Int)),b)else d (a,an (Int.fdiv (IntKind.wrap .u64 (an (a+b))) (2 ^ min (1:Int).toNat 64)))else(bif decide (a<(c.length:Int))then aj (bq c a) λ(i:bU)=>aj (e i target) λ(f:Int)=>some (a,decide (f=0))else some (a,false))) ((0:Int),(c.length:Int))
def pV(c:oO)(target:Int)(e:ck->Int->fe):Option (Int×Bool):=
 dn (λ(d:(Int×Int)->Option _) (a,b)=>bif decide (a<b)then aj (bq c (an (Int.fdiv (IntKind.wrap .u64 (an (a+b))) (2 ^ min (1:Int).toNat 64)))) λ(h:ck)=>aj (e h target) λ(g:Int)=>bif decide (g<0)then d (an ((an (Int.fdiv (IntKind.wrap .u64 (an (a+b))) (2 ^ min (1:Int).toNat 64)))+(1:Int)),b)else d (a,an (Int.fdiv (IntKind.wrap .u64 (an (a+b))) (2 ^ min (1:Int).toNat 64)))else(bif decide (a<(c.length:Int))then aj (bq c a) λ(i:ck)=>aj (e i target) λ(f:Int)=>some (a,decide (f=0))else some (a,false))) ((0:Int),(c.length:Int))
def vW(d:bH)(v:Int):fe:=
 bZ d 0 (λ(c:Int) (e:Int) (a:Unit->Option _) ()=>bif decide (v=e)then some (c:Int)else a ()) (λ(b:Unit)=>match b with|()=>some (-1:Int)) ()
def vD(e:oO)(f:ck->fz):fe:=
 bZ e 0 (λ(d:Int) (g:ck) (a:Unit->Option _) ()=>aj (f g) λ(c:Bool)=>bif c then some (d:Int)else a ()) (λ(b:Unit)=>match b with|()=>some (-1:Int)) ()
def vG(e:oK)(f:bU->fz):fe:=
 bZ e 0 (λ(d:Int) (g:bU) (a:Unit->Option _) ()=>aj (f g) λ(c:Bool)=>bif c then some (d:Int)else a ()) (λ(b:Unit)=>match b with|()=>some (-1:Int)) ()
def vQ(e:bH)(f:Int->fz):fe:=
 bZ e 0 (λ(d:Int) (g:Int) (a:Unit->Option _) ()=>aj (f g) λ(c:Bool)=>bif c then some (d:Int)else a ()) (λ(b:Unit)=>match b with|()=>some (-1:Int)) ()
def l0(b:bH)(v:Int):fz:=
 aj (vW b v) λ(a:Int)=>some (decide (0<=a))
def rW(b:oO)(f:ck->fz):fz:=
 aj (vD b f) λ(a:Int)=>some (decide (0<=a))
def oh(b:oK)(f:bU->fz):fz:=
 aj (vG b f) λ(a:Int)=>some (decide (0<=a))
def rX(b:bH)(f:Int->fz):fz:=
 aj (vQ b f) λ(a:Int)=>some (decide (0<=a))
def nk(n:Int)(b:Int)(a:Int):fz:=
 some ((decide (b<=n))&&(decide (n<=a)))
def p3(a:bU)(b:bU):fe:=
 aj (hB a.A b.A) λ(e:Int)=>aj (hB a.B b.B) λ(c:Int)=>aj (ku ([e,c]:bH)) λ(d:Int)=>some d
def qb(b:ck)(id:Int):fe:=
 aj (hB b.b7 id) λ(a:Int)=>some a
def wu(b:ck):fz:=
 aj (nk b.b7 (1:Int) (99:Int)) λ(a:Bool)=>some (!a)
def r8(l:bU):fz:=
 aj (nk l.eE (1:Int) (1000:Int)) λ(c:Bool)=>(bif !c then some true else aj (nk l.eP (1:Int) (1000:Int)) λ(a:Bool)=>(bif !a then some true else aj (nk l.lJ (0:Int) (1000:Int)) λ(b:Bool)=>some (!b)))
def p4(id:Int)(b:aK):fz:=
 aj (pV b.aP id qb) λ(a:Int×Bool)=>some (!a.2)
def wz(l:bU)(a:aK):fz:=
 aj (p4 l.A a) λ(c:Bool)=>(bif c then some true else aj (p4 l.B a) λ(b:Bool)=>some b)
def wA(l:bU):fz:=
 some (decide (l.B<=l.A))
def m5(t:aK):fe:=
 bif ((decide (24<(t.aP.length:Int)))||(decide (60<(t.Links.length:Int))))then some (3:Int)else aj (rW t.aP wu) λ(i:Bool)=>bif i then some (2:Int)else bZ t.aP 0 (λ(c:Int) (r:ck) (f:Unit->Option _) ()=>jn (λ(m:Bool)=>bif m then some (25:Int)else f ()) λe=>(bif decide (0<(c:Int))then aj (bq t.aP (an ((c:Int)-(1:Int)))) λ(l:ck)=>e (decide (r.b7<=l.b7))else e false)) (λ(a:Unit)=>match a with|()=>aj (oh t.Links r8) λ(g:Bool)=>bif g then some (2:Int)else aj (oh t.Links (λ(p:bU)=>wz p t)) λ(h:Bool)=>bif h then some (4:Int)else aj (oh t.Links wA) λ(k:Bool)=>bif k then some (8:Int)else bZ t.Links 0 (λ(b:Int) (s:bU) (j:Unit->Option _) ()=>jn (λ(q:Bool)=>bif q then some (25:Int)else j ()) λd=>(bif decide (0<(b:Int))then aj (bq t.Links (an ((b:Int)-(1:Int)))) λ(n:bU)=>aj (p3 n s) λ(o:Int)=>d (decide (0<=o))else d false)) (λ(a:Unit)=>match a with|()=>some (0:Int)) ()) ()
def p7(t:aK):fz:=
 aj (m5 t) λ(a:Int)=>some (decide (a=0))
def sB(t:aK)(c:Int):Option (ck×Bool):=
 aj (pV t.aP c qb) λ(a:Int×Bool)=>bif !a.2 then some ((ck.mk (0:Int) false),false)else aj (bq t.aP a.1) λ(b:ck)=>some (b,true)
def oB(t:aK)(c:Int):fz:=
 aj (sB t c) λ(b:ck×Bool)=>aj (p7 t) λ(a:Bool)=>(bif a then some b.2 else some false)
def p6(t:aK)(a:Int)(b:Int):Option (Int×Bool):=
 aj (p7 t) λ(d:Bool)=>bif !d then some ((0:Int),false)else aj (rV t.Links (bU.mk (if b<a then b else a) (if b>a then b else a) (0:Int) (0:Int) (0:Int)) p3) λ(c:Int×Bool)=>bif !c.2 then some ((0:Int),false)else bif decide (a<b)then aj (bq t.Links c.1) λ(e:bU)=>some (e.eE,true)else aj (bq t.Links c.1) λ(f:bU)=>some (f.eP,true)
end
end
section
noncomputable section
def Bb(d:Int):fe:=
 jn (λ(a:Int×Int)=>match a with|(c,h)=>jn (λ(a:Int×Int)=>match a with|(b,i)=>jn (λ(a:Int×Int)=>match a with|(j,l)=>aj (AW (⟨#[0,1,2,2,3,3,3,3,4,4,4,4,4,4,4,4,5,5,5,5,5,5,5,5,5,5,5,5,5,5,5,5,6,6,6,6,6,6,6,6,6,6,6,6,6,6,6,6,6,6,6,6,6,6,6,6,6,6,6,6,6,6,6,6,7,7,7,7,7,7,7,7,7,7,7,7,7,7,7,7,7,7,7,7,7,7,7,7,7,7,7,7,7,7,7,7,7,7,7,7,7,7,7,7,7,7,7,7,7,7,7,7,7,7,7,7,7,7,7,7,7,7,7,7,7,7,7,7,8,8,8,8,8,8,8,8,8,8,8,8,8,8,8,8,8,8,8,8,8,8,8,8,8,8,8,8,8,8,8,8,8,8,8,8,8,8,8,8,8,8,8,8,8,8,8,8,8,8,8,8,8,8,8,8,8,8,8,8,8,8,8,8,8,8,8,8,8,8,8,8,8,8,8,8,8,8,8,8,8,8,8,8,8,8,8,8,8,8,8,8,8,8,8,8,8,8,8,8,8,8,8,8,8,8,8,8,8,8,8,8,8,8,8,8,8,8,8,8,8,8,8,8,8,8,8,8]⟩:ByteArray) (IntKind.wrap .u8 j)) λ(k:UInt8)=>some (an (l+(an (k.toNat:Int))))) λg=>bif decide (256<=b)then g (Int.fdiv b (2 ^ min (8:Int).toNat 64),an (i+8))else g (b,i)) λe=>bif decide (65536<=c)then e (Int.fdiv c (2 ^ min (16:Int).toNat 64),an (h+16))else e (c,h)) λf=>bif decide (4294967296<=d)then f (Int.fdiv d (2 ^ min (32:Int).toNat 64),(32:Int))else f (d,(0:Int))
def Bi(b:Int):fe:=
 aj (Bb b) λ(a:Int)=>some a
def AN: Option Unit:=
 dn (λ(a:Unit->Option _) ()=>some ()) ()
def AU(c:Int):Option Unit:=
 dn (λ(a:Unit->Option _) ()=>aj (AN) λ(b:Unit)=>some ()) ()
def GU: Option Unit:=
 aj (Bi (0:Int)) λ(a:Int)=>aj (AU a) λ(b:Unit)=>some ()
end
end
section
noncomputable section
def sq(t:bH):Option bR:=
 aj (h5 t (0:Int) (if(2000:Int)<(t.length:Int)then(2000:Int)else(t.length:Int))) λ(a:bH)=>some (bR.mk a (0:Int))
def r5(t:bR):Option (Int×bR):=
 bif decide ((t.L.length:Int)<=t.At)then some ((0:Int),t)else aj (bq t.L (an ((an (t.At+1))-(1:Int)))) λ(a:Int)=>some (a,(bR.mk t.L (an (t.At+1))))
def sr(a:Int)(n:Int):fe:=
 bif decide (n<1)then some (0:Int)else dR (decide (n≠0))<|jn (λ(c:Int)=>some c) λb=>bif decide (Int.tmod a n<0)then b (an ((Int.tmod a n)+n))else b (Int.tmod a n)
def gW(t:bR)(n:Int):Option (Int×bR):=
 aj (r5 t) λ(a:Int×bR)=>aj (sr a.1 n) λ(b:Int)=>some (b,a.2)
def lz(t:bR)(b:Int)(hi:Int):Option (Int×bR):=
 aj (gW t (an ((an (hi-b))+(1:Int)))) λ(a:Int×bR)=>some (an (b+a.1),a.2)
def km(t:bR)(l:bH):Option (Int×bR):=
 aj (gW t (l.length:Int)) λ(a:Int×bR)=>aj (bq l a.1) λ(b:Int)=>some (b,a.2)
def i5(l:bH)(c:Int):fz:=
 bZ l 0 (λ(e:Int) (d:Int) (a:Unit->Option _) ()=>bif decide (d=c)then some true else a ()) (λ(b:Unit)=>match b with|()=>some false) ()
def qc(l:bH)(b:Int):h9:=
 dn (λ(e:Int->Option _) (a:Int)=>jn (λ(i:Bool)=>bif i then e (an (a+1))else jn (λ(n:Bool)=>bif n then some l else aj (h5 l a (l.length:Int)) λ(f:bH)=>aj (dP ([b]:bH) f) λ(g:bH)=>aj (h5 l (0:Int) a) λ(k:bH)=>aj (dP k g) λ(m:bH)=>some m) λc=>(bif decide (a<(l.length:Int))then aj (bq l a) λ(j:Int)=>c (decide (j=b))else c false)) λd=>(bif decide (a<(l.length:Int))then aj (bq l a) λ(h:Int)=>d (decide (h<b))else d false)) (0:Int)
end
end
section
noncomputable section
def qj(n:Int):fz:=
 some ((decide (1<=n))&&(decide (n<=99)))
def qd(t:b0):fe:=
 aj (qj t.cH) λ(r:Bool)=>bZ t.Links 0 (λ(K:Int) (m:aQ) (c:Bool->Option _) (g:Bool)=>(bif g then aj (qj m.aO) λ(n:Bool)=>(bif n then aj (qj m.aJ) λ(q:Bool)=>c q else c false)else c false)) (λ(g:Bool)=>bif !g then some (2:Int)else bZ (List.drop 1 t.Links) 1 (λ(o:Int) (h:aQ) (s:Unit->Option _) ()=>aj (bq t.Links (an ((o:Int)-(1:Int)))) λ(d:aQ)=>bif ((decide (h.aO<d.aO))||((decide (d.aO=h.aO))&&(decide (h.aJ<=d.aJ))))then some (25:Int)else s ()) (λ(a:Unit)=>match a with|()=>bZ t.Links 0 (λ(x:Int) (k:aQ) (A:Unit->Option _) ()=>aj (h5 t.Links (0:Int) (x:Int)) λ(p:lR)=>bZ p 0 (λ(L:Int) (B:aQ) (D:Unit->Option _) ()=>bif decide (B.aJ=k.aJ)then some (8:Int)else D ()) (λ(a:Unit)=>match a with|()=>bif decide (k.aJ=t.cH)then some (8:Int)else A ()) ()) (λ(a:Unit)=>match a with|()=>dn (λ(F:((bH)×Bool)->Option _) (l,G)=>bif G then bZ t.Links 0 (λ(M:Int) (e:aQ) (H:((bH)×Bool)->Option _) (b,f)=>jn (λ(a:(bH)×Bool)=>match a with|(J,E)=>H (J,E)) λj=>jn (λ(y:Bool)=>bif y then aj (dP b ([e.aJ]:bH)) λ(u:bH)=>j (u,true)else j (b,f)) λi=>aj (i5 b e.aO) λ(w:Bool)=>(bif w then aj (i5 b e.aJ) λ(z:Bool)=>i (!z)else i false)) (λ(a:(bH)×Bool)=>match a with|(b,f)=>F (b,f)) (l,false)else bZ t.Links 0 (λ(N:Int) (C:aQ) (I:Unit->Option _) ()=>aj (i5 l C.aO) λ(v:Bool)=>bif !v then some (10:Int)else I ()) (λ(a:Unit)=>match a with|()=>some (0:Int)) ()) (([t.cH]:bH),true)) ()) ()) r
def sD(t:b0):h9:=
 aj (qd t) λ(d:Int)=>bif !decide (d=0)then some []else bZ t.Links 0 (λ(f:Int) (e:aQ) (b:(bH)->Option _) (a:(bH))=>aj (qc a e.aJ) λ(c:(bH))=>b c) (λ(a:(bH))=>some a) ([t.cH]:bH)
def ot(l:bH):fz:=
 bZ (List.drop 1 l) 1 (λ(c:Int) (e:Int) (a:Unit->Option _) ()=>aj (bq l (an ((c:Int)-(1:Int)))) λ(d:Int)=>bif decide (e<=d)then some false else a ()) (λ(b:Unit)=>match b with|()=>some true) ()
def sw(a:b0)(b:b0):fz:=
 bif ((!decide (a.cH=b.cH))||(!decide ((a.Links.length:Int)=(b.Links.length:Int))))then some false else bZ a.Links 0 (λ(e:Int) (g:aQ) (c:Unit->Option _) ()=>aj (bq b.Links (e:Int)) λ(f:aQ)=>bif !(gH g f)then some false else c ()) (λ(d:Unit)=>match d with|()=>some true) ()
end
end
section
noncomputable section
def sA(t:bR)(aF:Int):Option (aK×bR):=
 aj (lz t (1:Int) aF) λ(a:Int×bR)=>dR (decide (a.1<=9223372036854775807))<|gj (a.1-0).toNat (0:Int) (λ(T:Int) (R:(Int×(oO)×(bH)×Int)->Option _) (C,f,r,u)=>aj (km (bR.mk r u) ([(1:Int),(1:Int),(1:Int),(2:Int),(5:Int)]:bH)) λ(h:Int×bR)=>aj (dP f ([(ck.mk (an (C+h.1)) true)]:oO)) λ(S:oO)=>R (an (C+h.1),S,h.2.L,h.2.At)) (λ(T:Int) (b:Int×(oO)×(bH)×Int)=>match b with|(C,f,r,u)=>dR (decide (0<a.1)&&decide (a.1<=4294967296))<|dR (decide (((List.replicate a.1.toNat []:fE).length:Int)<=9223372036854775807))<|gj (((List.replicate a.1.toNat []:fE).length:Int)-(0:Int)).toNat (0:Int) (λ(s:Int) (U:(fE)->Option _) (k:(fE))=>dR (decide (0<=a.1)&&decide (a.1<=4294967296))<|aj (bq k (s:Int)) λ(aG:ja)=>U (List.set k (s:Int).toNat (List.replicate (a.1).toNat false))) (λ(s:Int) (k:(fE))=>dR (decide (a.1<=9223372036854775807))<|gj (a.1-1).toNat (1:Int) (λ(l:Int) (W:((bH)×Int×(fE))->Option _) (w,z,g)=>jn (λ(b:(fE)×(bH)×Int)=>match b with|(ab,am,Z)=>W (am,Z,ab)) λH=>aj (gW (bR.mk w z) (12:Int)) λ(i:Int×bR)=>bif decide (i.1<11)then aj (gW i.2 (l:Int)) λ(j:Int×bR)=>aj (bq g j.1) λ(J:ja)=>aj (bq J (l:Int)) λ(aI:Bool)=>aj (e3 J (l:Int) true) λ(V:ja)=>H ((List.set g j.1.toNat V),j.2.L,j.2.At)else H (g,i.2.L,i.2.At)) (λ(l:Int) (b:(bH)×Int×(fE))=>match b with|(w,z,g)=>aj (gW (bR.mk w z) (an (a.1+2))) λ(v:Int×bR)=>dn (λ(ae:(Int×(bH)×Int×(fE))->Option _) (I,N,Q,e)=>bif decide (0<I)then jn (λ(b:(fE)×(bH)×Int)=>match b with|(aq,ar,aw)=>ae (an (I-1),ar,aw,aq)) λG=>aj (gW (bR.mk N Q) a.1) λ(d:Int×bR)=>aj (gW d.2 a.1) λ(c:Int×bR)=>bif !decide (d.1=c.1)then aj (bq e (if c.1<d.1 then c.1 else d.1)) λ(L:ja)=>aj (bq L (if c.1>d.1 then c.1 else d.1)) λ(aM:Bool)=>aj (e3 L (if c.1>d.1 then c.1 else d.1) true) λ(X:ja)=>G ((List.set e (if c.1<d.1 then c.1 else d.1).toNat X),c.2.L,c.2.At)else G (e,c.2.L,c.2.At)else aj (gW (bR.mk N Q) (3:Int)) λ(x:Int×bR)=>dR (decide ((e.length:Int)<=9223372036854775807))<|gj ((e.length:Int)-(0:Int)).toNat (0:Int) (λ(y:Int) (af:((oK)×(bH)×Int)->Option _) (F,D,E)=>dR (decide ((e.length:Int)<=9223372036854775807))<|gj ((e.length:Int)-(0:Int)).toNat (0:Int) (λ(A:Int) (ao:((oK)×(bH)×Int)->Option _) (q,o,p)=>jn (λ(b:(bH)×Int×(oK))=>match b with|(ax,az,aA)=>ao (aA,ax,az)) λK=>aj (bq e (y:Int)) λ(ag:ja)=>aj (bq ag (A:Int)) λ(aa:Bool)=>bif !aa then K (o,p,q)else aj (bq f (y:Int)) λ(ai:ck)=>aj (bq f (A:Int)) λ(ak:ck)=>aj (km (bR.mk o p) ([(0:Int),(1:Int),(2:Int),(3:Int),(5:Int),(10:Int),(1000:Int)]:bH)) λ(m:Int×bR)=>jn (λ(b:(bH)×Int×Int×Int)=>match b with|(aB,aC,aD,aE)=>aj (dP q ([(bU.mk ai.b7 ak.b7 aD aE m.1)]:oK)) λ(Y:oK)=>K (aB,aC,Y)) λM=>bif !(decide (x.1=0))then aj (lz m.2 (1:Int) (20:Int)) λ(O:Int×bR)=>aj (km O.2 ([(1:Int),(2:Int),(3:Int),O.1,(1000:Int)]:bH)) λ(n:Int×bR)=>aj (lz n.2 (1:Int) (20:Int)) λ(P:Int×bR)=>aj (km P.2 ([n.1,n.1,P.1]:bH)) λ(B:Int×bR)=>M (B.2.L,B.2.At,n.1,B.1)else M (m.2.L,m.2.At,(1:Int),(1:Int))) (λ(A:Int) (b:(oK)×(bH)×Int)=>match b with|(q,o,p)=>af (q,o,p)) (F,D,E)) (λ(y:Int) (b:(oK)×(bH)×Int)=>match b with|(F,D,E)=>some ((aK.mk f F),(bR.mk D E))) ([],x.2.L,x.2.At)) (v.1,v.2.L,v.2.At,g)) (r,u,k)) (List.replicate a.1.toNat []:fE)) ((0:Int),[],a.2.L,a.2.At)
def sS(t:bR)(p:aK):Option (Int×bR):=
 jn (λ(g:Bool×(bH)×Int)=>match g with|(i,d,b)=>bif i then aj (km (bR.mk d b) ([(0:Int),(98:Int),(100:Int)]:bH)) λ(c:Int×bR)=>some (c.1,c.2)else aj (gW (bR.mk d b) (p.aP.length:Int)) λ(e:Int×bR)=>aj (bq p.aP e.1) λ(h:ck)=>some (h.b7,e.2)) λf=>(bif decide ((p.aP.length:Int)=(0:Int))then f (true,t.L,t.At)else aj (gW t (40:Int)) λ(a:Int×bR)=>f (decide (a.1=39),a.2.L,a.2.At))
def s7(t:bR)(p:aK)(n:Int):Option ((bH)×bR):=
 aj (gW t (an (n+1))) λ(b:Int×bR)=>dn (λ(g:((bH)×Int×(bH)×Int)->Option _) (e,f,d,c)=>bif ((decide (0<f))&&(decide (0<(p.aP.length:Int))))then aj (gW (bR.mk d c) (p.aP.length:Int)) λ(a:Int×bR)=>aj (bq p.aP a.1) λ(i:ck)=>aj (qc e i.b7) λ(h:(bH))=>g (h,an (f-1),a.2.L,a.2.At)else some (e,(bR.mk d c))) ([],b.1,b.2.L,b.2.At)
def th(l:lR)(c:aQ):Option (List aQ):=
 dn (λ(e:Int->Option _) (a:Int)=>jn (λ(h:Bool)=>bif h then e (an (a+1))else aj (h5 l a (l.length:Int)) λ(f:lR)=>aj (dP ([c]:lR) f) λ(g:lR)=>aj (h5 l (0:Int) a) λ(i:lR)=>aj (dP i g) λ(j:lR)=>some j) λb=>(bif decide (a<(l.length:Int))then aj (bq l a) λ(d:aQ)=>(bif decide (d.aO<c.aO)then b true else(bif decide (d.aO=c.aO)then b (decide (d.aJ<c.aJ))else b false))else b false)) (0:Int)
def s8(t:bR)(p:aK)(root:Int):Option (b0×bR):=
 aj (gW t (an ((an ((2:Int)*(p.Links.length:Int)))+(1:Int)))) λ(f:Int×bR)=>dn (λ(o:((bH)×Int×(lR)×(bH)×Int)->Option _) (c,k,d,h,l)=>bif decide (0<k)then jn (λ(e:(bH)×(bH)×Int×(lR))=>match e with|(A,v,y,z)=>o (A,an (k-1),z,v,y)) λj=>aj (gW (bR.mk h l) (p.Links.length:Int)) λ(a:Int×bR)=>aj (bq p.Links a.1) λ(b:bU)=>jn (λ(e:Int×Int)=>match e with|(n,g)=>jn (λ(w:Bool)=>bif w then aj (dP c ([g]:bH)) λ(q:bH)=>aj (th d (aQ.mk n g)) λ(s:(lR))=>j (q,a.2.L,a.2.At,s)else j (c,a.2.L,a.2.At,d)) λm=>aj (i5 c n) λ(u:Bool)=>(bif u then aj (i5 c g) λ(x:Bool)=>m (!x)else m false)) λi=>aj (i5 c b.B) λ(r:Bool)=>bif r then i (b.B,b.A)else i (b.A,b.B)else some ((b0.mk root d),(bR.mk h l))) (([root]:bH),f.1,[],f.2.L,f.2.At)
def r9(t:bR)(p:aK):Option (aK×bR):=
 aj (dP ([]:oO) p.aP) λ(c:oO)=>aj (dP ([]:oK) p.Links) λ(b:oK)=>jn (λ(k:(bH)×Int×(oO)×(oK))=>match k with|(j,i,m,l)=>some ((aK.mk m l),(bR.mk j i))) λd=>aj (gW t (4:Int)) λ(a:Int×bR)=>bif decide (a.1=0)then aj (km a.2 ([(0:Int),(1:Int),(100:Int)]:bH)) λ(f:Int×bR)=>aj (dP c ([(ck.mk f.1 false)]:oO)) λ(o:oO)=>d (f.2.L,f.2.At,o,b)else bif decide (a.1=1)then bif decide (0<(b.length:Int))then aj (gW a.2 (b.length:Int)) λ(g:Int×bR)=>aj (km g.2 ([(0:Int),(1001:Int)]:bH)) λ(h:Int×bR)=>aj (bq b g.1) λ(e:bU)=>aj (e3 b g.1 (bU.mk e.A e.B h.1 e.eP e.lJ)) λ(q:oK)=>d (h.2.L,h.2.At,c,q)else d (a.2.L,a.2.At,c,b)else bif decide (a.1=2)then bif decide (0<(b.length:Int))then aj (bq b (0:Int)) λ(n:bU)=>aj (dP b ([n]:oK)) λ(r:oK)=>d (a.2.L,a.2.At,c,r)else d (a.2.L,a.2.At,c,b)else bif decide (0<(c.length:Int))then aj (h5 c (1:Int) (c.length:Int)) λ(s:oO)=>d (a.2.L,a.2.At,s,b)else d (a.2.L,a.2.At,c,b)
def v2(p:aK):fz:=
 some ((decide ((p.aP.length:Int)<=(30:Int)))&&(decide ((p.Links.length:Int)<=(70:Int))))
end
end
section
noncomputable section
def p5(n:Int):fz:=
 some ((decide (1<=n))&&(decide (n<=99)))
def r6(t:b0):Option (List (Int×Bool)):=
 dn (λ(g:(Bool×(List (Int×Bool)))->Option _) (j,e)=>bif j then bZ t.Links 0 (λ(l:Int) (d:aQ) (h:(Bool×(List (Int×Bool)))->Option _) (c,a)=>jn (λ(b:Bool×(List (Int×Bool)))=>match b with|(k,i)=>h (k,i)) λf=>bif (((ay a d.aO).getD false)&&(!((ay a d.aJ).getD false)))then f (true,bc a d.aJ true)else f (c,a)) (λ(b:Bool×(List (Int×Bool)))=>match b with|(c,a)=>g (c,a)) (false,e)else some e) (true,bc [] t.cH true)
def p0(t:b0):fe:=
 aj (p5 t.cH) λ(l:Bool)=>bif !l then some (2:Int)else bZ t.Links 0 (λ(w:Int) (f:aQ) (h:Unit->Option _) ()=>jn (λ(p:Bool)=>bif p then some (2:Int)else h ()) λc=>aj (p5 f.aO) λ(i:Bool)=>(bif !i then c true else aj (p5 f.aJ) λ(k:Bool)=>c (!k))) (λ(a:Unit)=>match a with|()=>bZ (List.drop 1 t.Links) 1 (λ(j:Int) (g:aQ) (m:Unit->Option _) ()=>aj (bq t.Links (an ((j:Int)-(1:Int)))) λ(d:aQ)=>aj (hB d.aO g.aO) λ(o:Int)=>aj (hB d.aJ g.aJ) λ(q:Int)=>aj (ku ([o,q]:bH)) λ(n:Int)=>bif decide (0<=n)then some (25:Int)else m ()) (λ(a:Unit)=>match a with|()=>bZ t.Links 0 (λ(x:Int) (e:aQ) (r:(List (Int×Bool))->Option _) (b:(List (Int×Bool)))=>bif ((ay b e.aJ).getD false)then some (8:Int)else r (bc b e.aJ true)) (λ(b:(List (Int×Bool)))=>aj (r6 t) λ(s:(List (Int×Bool)))=>bZ t.Links 0 (λ(y:Int) (u:aQ) (v:Unit->Option _) ()=>bif !((ay s u.aO).getD false)then some (10:Int)else v ()) (λ(a:Unit)=>match a with|()=>some (0:Int)) ()) (bc [] t.cH true)) ()) ()
def r7(t:b0):h9:=
 aj (p0 t) λ(d:Int)=>bif !decide (d=0)then some []else bZ t.Links 0 (λ(f:Int) (e:aQ) (b:(bH)->Option _) (a:(bH))=>aj (dP a ([e.aJ]:bH)) λ(c:bH)=>b c) (λ(a:(bH))=>dR (decide (a.length<4611686018427387904))<|some (dh a)) ([t.cH]:bH)
end
end
section
noncomputable section
def wC(a:aQ)(b:aQ):fe:=
 aj (hB a.aO b.aO) λ(e:Int)=>aj (hB a.aJ b.aJ) λ(c:Int)=>aj (ku ([e,c]:bH)) λ(d:Int)=>some d
def wL(a:aQ)(b:aQ):fe:=
 aj (hB a.aO b.aO) λ(e:Int)=>aj (hB a.aJ b.aJ) λ(c:Int)=>aj (ku ([e,c]:bH)) λ(d:Int)=>some d
def wU(a:bm)(b:bm):fe:=
 aj (hB a.Hop.aO b.Hop.aO) λ(e:Int)=>aj (hB a.Hop.aJ b.Hop.aJ) λ(c:Int)=>aj (ku ([e,c]:bH)) λ(d:Int)=>some d
def wq(a:cL)(b:cL):fe:=
 aj (hB a.dm b.dm) λ(c:Int)=>some c
end
end
section
noncomputable section
def oM(t:aK):Option (List bm):=
 bZ t.Links 0 (λ(g:Int) (a:bU) (d:(kZ)->Option _) (b:(kZ))=>aj (dP b ([(bm.mk (aQ.mk a.A a.B) a.eE),(bm.mk (aQ.mk a.B a.A) a.eP)]:kZ)) λ(e:kZ)=>d e) (λ(b:(kZ))=>aj (gA (c9 [λc:bm=>c.Hop.aO,λc:bm=>c.Hop.aJ]) b) λ(f:kZ)=>some f) []
end
end
section
noncomputable section
def oo(l:bH):fz:=
 bZ (List.drop 1 l) 1 (λ(c:Int) (e:Int) (a:Unit->Option _) ()=>aj (bq l (an ((c:Int)-(1:Int)))) λ(d:Int)=>bif decide (e<=d)then some false else a ()) (λ(b:Unit)=>match b with|()=>some true) ()
def ni(t:aK)(root:Int)(a:bH):fe:=
 aj (m5 t) λ(g:Int)=>bif !decide (g=0)then some (1:Int)else aj (oo a) λ(c:Bool)=>bif !c then some (25:Int)else aj (dP ([root]:bH) a) λ(d:bH)=>bZ d 0 (λ(i:Int) (h:Int) (b:Unit->Option _) ()=>aj (oB t h) λ(e:Bool)=>bif !e then some (4:Int)else b ()) (λ(f:Unit)=>match f with|()=>some (0:Int)) ()
def oq(t:aK)(b:b0)(c:bH):fe:=
 aj (m5 t) λ(i:Int)=>bif !decide (i=0)then some (1:Int)else aj (p0 b) λ(d:Int)=>bif !decide (d=0)then some d else aj (dP ([b.cH]:bH) c) λ(g:bH)=>bZ g 0 (λ(s:Int) (q:Int) (f:Unit->Option _) ()=>aj (oB t q) λ(h:Bool)=>bif !h then some (4:Int)else f ()) (λ(a:Unit)=>match a with|()=>bZ b.Links 0 (λ(r:Int) (e:aQ) (j:Unit->Option _) ()=>aj (p6 t e.aO e.aJ) λ(l:Int×Bool)=>bif !l.2 then some (4:Int)else j ()) (λ(a:Unit)=>match a with|()=>aj (oo c) λ(n:Bool)=>bif !n then some (25:Int)else aj (r7 b) λ(k:(bH))=>bZ c 0 (λ(u:Int) (m:Int) (o:Unit->Option _) ()=>aj (l0 k m) λ(p:Bool)=>bif !p then some (9:Int)else o ()) (λ(a:Unit)=>match a with|()=>some (0:Int)) ()) ()) ()
def sN(t:aK)(c:b0):Option (Int×Int):=
 aj (oq t c []) λ(b:Int)=>bif !decide (b=0)then some ((0:Int),b)else bZ c.Links 0 (λ(g:Int) (d:aQ) (e:Int->Option _) (a:Int)=>aj (p6 t d.aO d.aJ) λ(f:Int×Bool)=>e (an (a+f.1))) (λ(a:Int)=>some (a,(0:Int))) (0:Int)
def v7(c:Int)(b:bI):fz:=
 aj (l0 b.aP c) λ(a:Bool)=>some a
def ss(t:aK)(root:Int)(k:bH)(l:mR):fz:=
 bif decide (200<(l.length:Int))then some false else bZ l 0 (λ(C:Int) (a:bI) (i:Unit->Option _) ()=>jn (λ(r:Bool)=>bif r then some false else bZ a.aP 0 (λ(B:Int) (A:Int) (o:Unit->Option _) ()=>aj (oB t A) λ(m:Bool)=>bif !m then some false else o ()) (λ(b:Unit)=>match b with|()=>aj (rX k (λ(w:Int)=>v7 w a)) λ(q:Bool)=>bif !q then some false else i ()) ()) λc=>(bif decide (a.Value<1)then c true else(bif decide (24000<a.Value)then c true else aj (oo a.aP) λ(n:Bool)=>(bif !n then c true else aj (l0 a.aP root) λ(j:Bool)=>c j)))) (λ(b:Unit)=>match b with|()=>aj (oM t) λ(s:(kZ))=>bZ s 0 (λ(D:Int) (e:bm) (u:Unit->Option _) ()=>bZ l 0 (λ(E:Int) (f:bI) (y:Int->Option _) (d:Int)=>jn (λ(z:Int)=>y z) λg=>jn (λ(x:Bool)=>bif x then g (an (d+f.Value))else g d) λh=>aj (l0 f.aP e.Hop.aJ) λ(p:Bool)=>(bif p then aj (l0 f.aP e.Hop.aO) λ(v:Bool)=>h (!v)else h false)) (λ(d:Int)=>bif decide (e.b6<d)then some false else u ()) (0:Int)) (λ(b:Unit)=>match b with|()=>some true) ()) ()
def lD(t:aK)(root:Int)(b:bH)(l:mR):Option (Int×Int):=
 aj (ni t root b) λ(c:Int)=>bif !decide (c=0)then some ((0:Int),c)else aj (ss t root b l) λ(e:Bool)=>bif !e then some ((0:Int),(1:Int))else bZ l 0 (λ(g:Int) (f:bI) (d:Int->Option _) (a:Int)=>d (an (a+f.Value))) (λ(a:Int)=>some (a,(0:Int))) (0:Int)
end
end
section
noncomputable section
def oy(t:aK)(b:b0)(c:bH):fe:=
 aj (nj t) λ(h:Int)=>bif !decide (h=0)then some (1:Int)else aj (qd b) λ(d:Int)=>bif !decide (d=0)then some d else aj (jd t b.cH) λ(g:Bool)=>bif !g then some (4:Int)else bZ c 0 (λ(s:Int) (q:Int) (f:Unit->Option _) ()=>aj (jd t q) λ(k:Bool)=>bif !k then some (4:Int)else f ()) (λ(a:Unit)=>match a with|()=>bZ b.Links 0 (λ(r:Int) (e:aQ) (i:Unit->Option _) ()=>aj (ql t e.aO e.aJ) λ(m:Int×Bool)=>bif !m.2 then some (4:Int)else i ()) (λ(a:Unit)=>match a with|()=>aj (ot c) λ(j:Bool)=>bif !j then some (25:Int)else aj (sD b) λ(o:(bH))=>bZ c 0 (λ(u:Int) (l:Int) (n:Unit->Option _) ()=>aj (i5 o l) λ(p:Bool)=>bif !p then some (9:Int)else n ()) (λ(a:Unit)=>match a with|()=>some (0:Int)) ()) ()) ()
def sU(t:aK)(c:b0):Option (Int×Int):=
 aj (oy t c []) λ(b:Int)=>bif !decide (b=0)then some ((0:Int),b)else bZ c.Links 0 (λ(g:Int) (d:aQ) (e:Int->Option _) (a:Int)=>aj (ql t d.aO d.aJ) λ(f:Int×Bool)=>e (an (a+f.1))) (λ(a:Int)=>some (a,(0:Int))) (0:Int)
def oE(t:aK)(root:Int)(a:bH):fe:=
 aj (nj t) λ(g:Int)=>bif !decide (g=0)then some (1:Int)else aj (ot a) λ(c:Bool)=>bif !c then some (25:Int)else aj (dP ([root]:bH) a) λ(d:bH)=>bZ d 0 (λ(i:Int) (h:Int) (b:Unit->Option _) ()=>aj (jd t h) λ(e:Bool)=>bif !e then some (4:Int)else b ()) (λ(f:Unit)=>match f with|()=>some (0:Int)) ()
end
end
section
noncomputable section
def sG(t:aK)(d:Int):fe:=
 bZ t.aP 0 (λ(c:Int) (e:ck) (a:Unit->Option _) ()=>bif decide (e.b7=d)then some (c:Int)else a ()) (λ(b:Unit)=>match b with|()=>some (0:Int)) ()
def qp(t:aK)(z:Int):h9:=
 dR (decide (0<=(t.aP.length:Int))&&decide ((t.aP.length:Int)<=4294967296))<|dn (λ(r:((bH)×Int)->Option _) (e,a)=>bif decide (a<(e.length:Int))then jn (λ(A:(bH))=>r (A,an (a+1))) λm=>aj (bq e a) λ(C:Int)=>aj (e3 e a (1073741824:Int)) λ(g:bH)=>aj (bq t.aP a) λ(v:ck)=>bif decide (v.b7=z)then aj (bq g a) λ(E:Int)=>aj (e3 g a (0:Int)) λ(u:bH)=>m u else m g else dn (λ(s:((bH)×Int)->Option _) (k,q)=>bif decide (q<(k.length:Int))then bZ t.Links 0 (λ(D:Int) (b:bU) (w:(bH)->Option _) (c:(bH))=>jn (λ(B:(bH))=>w B) λl=>aj (sG t b.A) λ(h:Int)=>aj (sG t b.B) λ(f:Int)=>jn (λ(d:(bH))=>aj (bq d h) λ(j:Int)=>bif decide (j<1073741824)then aj (bq d f) λ(p:Int)=>aj (e3 d f (if(an (b.eP+j))<p then an (b.eP+j)else p)) λ(y:bH)=>l y else l d) λn=>aj (bq c f) λ(i:Int)=>bif decide (i<1073741824)then aj (bq c h) λ(o:Int)=>aj (e3 c h (if(an (b.eE+i))<o then an (b.eE+i)else o)) λ(x:bH)=>n x else n c) (λ(c:(bH))=>s (c,an (q+1))) k else some k) (e,(0:Int))) ((List.replicate ((t.aP.length:Int)).toNat (0:Int)),(0:Int))
def me(t:aK)(d:bH)(f:Int):fe:=
 bZ t.aP 0 (λ(c:Int) (g:ck) (a:Unit->Option _) ()=>bif decide (g.b7=f)then aj (bq d (c:Int)) λ(e:Int)=>some e else a ()) (λ(b:Unit)=>match b with|()=>some (1073741824:Int)) ()
def sV(t:aK)(c:Int)(d:Int):Option (Int×Bool):=
 jn (λ(h:Bool)=>bif h then some ((0:Int),false)else aj (qp t d) λ(f:(bH))=>aj (me t f c) λ(a:Int)=>bif decide (a=1073741824)then some ((0:Int),false)else some (a,true)) λb=>aj (jd t c) λ(g:Bool)=>(bif !g then b true else aj (jd t d) λ(e:Bool)=>b (!e))
def qf(t:aK)(root:Int)(b:bH):fz:=
 bZ b 0 (λ(f:Int) (e:Int) (a:Unit->Option _) ()=>aj (sV t root e) λ(d:Int×Bool)=>bif !d.2 then some false else a ()) (λ(c:Unit)=>match c with|()=>some true) ()
def sH(t:aK):Option ((cn)×(fc 100)):=
 bZ t.aP 0 (λ(l:Int) (j:ck) (k:(fc 100)->Option _) (a:(fc 100))=>aj (bq a.l j.b7) λ(o:Int)=>k (fc.put a j.b7.toNat (l:Int))) (λ(a:(fc 100))=>dR (decide (0<(t.aP.length:Int))&&decide ((t.aP.length:Int)<=4294967296))<|dR (decide (((List.replicate (t.aP.length:Int).toNat []:cn).length:Int)<=9223372036854775807))<|gj (((List.replicate (t.aP.length:Int).toNat []:cn).length:Int)-(0:Int)).toNat (0:Int) (λ(g:Int) (m:(cn)->Option _) (f:(cn))=>dR (decide (0<=(t.aP.length:Int))&&decide ((t.aP.length:Int)<=4294967296))<|aj (bq f (g:Int)) λ(q:bH)=>m (List.set f (g:Int).toNat (List.replicate ((t.aP.length:Int)).toNat (0:Int)))) (λ(g:Int) (f:(cn))=>bZ t.Links 0 (λ(p:Int) (d:bU) (n:(cn)->Option _) (b:(cn))=>aj (bq a.l d.A) λ(e:Int)=>aj (bq b e) λ(h:bH)=>aj (bq a.l d.B) λ(c:Int)=>aj (bq b c) λ(s:bH)=>aj (bq h c) λ(r:Int)=>aj (bq (List.set b e.toNat (List.set h c.toNat d.eE)) c) λ(i:bH)=>aj (bq i e) λ(u:Int)=>n (List.set (List.set b e.toNat (List.set h c.toNat d.eE)) c.toNat (List.set i e.toNat d.eP))) (λ(b:(cn))=>some (b,a)) f) (List.replicate (t.aP.length:Int).toNat []:cn)) (fc.zero 100)
def sI(d:cn)(root:Int)(b:bH):fe:=
 dR (decide (0<=IntKind.wrap .u64 (b.length:Int)))<|dR (decide (0<IntKind.wrap .i64 ((1:Int)*2 ^ min (IntKind.wrap .u64 (b.length:Int)).toNat 64))&&decide (IntKind.wrap .i64 ((1:Int)*2 ^ min (IntKind.wrap .u64 (b.length:Int)).toNat 64)<=4294967296))<|dR (decide (((List.replicate (IntKind.wrap .i64 ((1:Int)*2 ^ min (IntKind.wrap .u64 (b.length:Int)).toNat 64)).toNat []:cn).length:Int)<=9223372036854775807))<|gj (((List.replicate (IntKind.wrap .i64 ((1:Int)*2 ^ min (IntKind.wrap .u64 (b.length:Int)).toNat 64)).toNat []:cn).length:Int)-(0:Int)).toNat (0:Int) (λ(a:Int) (L:(cn)->Option _) (f:(cn))=>dR (decide (0<=(d.length:Int))&&decide ((d.length:Int)<=4294967296))<|aj (bq f (a:Int)) λ(am:bH)=>aj (bq (List.set f (a:Int).toNat (List.replicate ((d.length:Int)).toNat (0:Int))) (a:Int)) λ(x:bH)=>dR (decide ((x.length:Int)<=9223372036854775807))<|gj ((x.length:Int)-(0:Int)).toNat (0:Int) (λ(c:Int) (M:(cn)->Option _) (e:(cn))=>jn (λ(N:(cn))=>M N) λu=>aj (bq e (a:Int)) λ(l:bH)=>aj (bq l (c:Int)) λ(ao:Int)=>bif decide ((a:Int)=(0:Int))then aj (bq (List.set e (a:Int).toNat (List.set l (c:Int).toNat (1099511627776:Int))) (a:Int)) λ(A:bH)=>aj (bq A (c:Int)) λ(aq:Int)=>u (List.set (List.set e (a:Int).toNat (List.set l (c:Int).toNat (1099511627776:Int))) (a:Int).toNat (List.set A (c:Int).toNat (0:Int)))else u (List.set e (a:Int).toNat (List.set l (c:Int).toNat (1099511627776:Int)))) (λ(c:Int) (e:(cn))=>bZ b 0 (λ(w:Int) (v:Int) (O:(cn)->Option _) (j:(cn))=>jn (λ(P:(cn))=>O P) λt=>dR (decide (0<=IntKind.wrap .u64 (w:Int)))<|bif decide ((a:Int)=IntKind.wrap .i64 ((1:Int)*2 ^ min (IntKind.wrap .u64 (w:Int)).toNat 64))then aj (bq j (a:Int)) λ(C:bH)=>aj (bq C v) λ(ar:Int)=>t (List.set j (a:Int).toNat (List.set C v.toNat (0:Int)))else t j) (λ(j:(cn))=>dn (λ(R:(Int×(cn))->Option _) (g,z)=>bif ((decide (g<(d.length:Int)))&&(decide (0<(a:Int))))then dn (λ(S:(Int×(cn))->Option _) (n,k)=>bif decide (0<n)then aj (bq k (a:Int)) λ(F:bH)=>aj (bq F g) λ(G:Int)=>aj (bq k n) λ(Y:bH)=>aj (bq Y g) λ(H:Int)=>aj (bq k (fR .xor .i64 (a:Int) n)) λ(ai:bH)=>aj (bq ai g) λ(I:Int)=>S (fR .and .i64 (an (n-1)) (a:Int),(List.set k (a:Int).toNat (List.set F g.toNat (if(an (H+I))<G then an (H+I)else G))))else R (an (g+1),k)) (fR .and .i64 (an ((a:Int)-(1:Int))) (a:Int),z)else dn (λ(V:(Bool×(cn))->Option _) (T,D)=>bif T then bZ d 0 (λ(p:Int) (B:bH) (W:(Bool×(cn))->Option _) (o,r)=>bZ d 0 (λ(m:Int) (aw:bH) (af:(Bool×(cn))->Option _) (q,h)=>jn (λ(i:Bool×(cn))=>match i with|(X,U)=>af (X,U)) λy=>jn (λ(Q:Bool)=>bif Q then aj (bq h (a:Int)) λ(s:bH)=>aj (bq B (m:Int)) λ(Z:Int)=>aj (bq s (m:Int)) λ(aa:Int)=>aj (bq s (p:Int)) λ(ax:Int)=>y (true,(List.set h (a:Int).toNat (List.set s (p:Int).toNat (an (Z+aa)))))else y (q,h)) λE=>aj (bq B (m:Int)) λ(J:Int)=>(bif decide (0<J)then aj (bq h (a:Int)) λ(K:bH)=>aj (bq K (m:Int)) λ(ab:Int)=>aj (bq K (p:Int)) λ(ae:Int)=>E (decide (an (J+ab)<ae))else E false)) (λ(i:Bool×(cn))=>match i with|(q,h)=>W (q,h)) (o,r)) (λ(i:Bool×(cn))=>match i with|(o,r)=>V (o,r)) (false,D)else L D) (decide (0<(a:Int)),z)) ((0:Int),j)) e) (List.set f (a:Int).toNat (List.replicate ((d.length:Int)).toNat (0:Int)))) (λ(a:Int) (f:(cn))=>aj (bq f (an ((f.length:Int)-(1:Int)))) λ(ak:bH)=>aj (bq ak root) λ(ag:Int)=>some ag) (List.replicate (IntKind.wrap .i64 ((1:Int)*2 ^ min (IntKind.wrap .u64 (b.length:Int)).toNat 64)).toNat []:cn)
def l3(t:aK)(root:Int)(a:bH):Option (Int×Int):=
 aj (oE t root a) λ(d:Int)=>bif !decide (d=0)then some ((0:Int),d)else bif decide (6<(a.length:Int))then some ((0:Int),(3:Int))else aj (qf t root a) λ(f:Bool)=>bif !f then some ((0:Int),(9:Int))else aj (sH t) λ(c:(cn)×(fc 100))=>bZ a 0 (λ(l:Int) (k:Int) (e:(bH)->Option _) (b:(bH))=>aj (bq c.2.l k) λ(i:Int)=>aj (dP b ([i]:bH)) λ(g:bH)=>e g) (λ(b:(bH))=>aj (bq c.2.l root) λ(j:Int)=>aj (sI c.1 j b) λ(h:Int)=>some (h,(0:Int))) []
end
end
section
noncomputable section
def lC{β:Type}(t:aK)(root:Int)(b:bH)(a:(b0×Int×Int)->Option β):Option β:=
 aj (ni t root b) λ(d:Int)=>bif !decide (d=0)then a ((b0.mk (0:Int) []),(0:Int),d)else bif decide (6<(b.length:Int))then a ((b0.mk (0:Int) []),(0:Int),(3:Int))else aj (oM t) λ(e:(kZ))=>wH e root b λ(c:(lR)×Int×Bool)=>bif !c.2.2 then a ((b0.mk (0:Int) []),(0:Int),(9:Int))else a ((b0.mk root c.1),c.2.1,(0:Int))
end
end
section
noncomputable section
def m6(t:aK):fz:=
 aj (m5 t) λ(a:Int)=>some (decide (a=0))
def qg(t:aK):Option jP:=
 bZ t.aP 0 (λ(u:Int) (k:ck) (l:((List (Int×mZ))×(List (Int×mZ)))->Option _) (e,d)=>l (bc e k.b7 [],bc d k.b7 [])) (λ(f:(List (Int×mZ))×(List (Int×mZ)))=>match f with|(e,d)=>bZ t.Links 0 (λ(s:Int) (a:bU) (m:((List (Int×mZ))×(List (Int×mZ)))->Option _) (b,c)=>aj (dP ((ay b a.A).getD []) ([(cL.mk a.B a.eE)]:mZ)) λ(i:mZ)=>aj (dP ((ay (bc b a.A i) a.B).getD []) ([(cL.mk a.A a.eP)]:mZ)) λ(n:mZ)=>aj (dP ((ay c a.B).getD []) ([(cL.mk a.A a.eE)]:mZ)) λ(j:mZ)=>aj (dP ((ay (bc c a.B j) a.A).getD []) ([(cL.mk a.B a.eP)]:mZ)) λ(p:mZ)=>m (bc (bc b a.A i) a.B n,bc (bc c a.B j) a.A p)) (λ(f:(List (Int×mZ))×(List (Int×mZ)))=>match f with|(b,c)=>aj (nO b (λ(g:Int) (v:mZ) (h:(List (Int×mZ)))=>dR (ay h g).isSome<|aj (gA (c9 [λr:cL=>r.dm]) ((ay h g).getD [])) λ(q:mZ)=>some (bc h g q)) b) λ(o:(List (Int×mZ)))=>some (jP.mk o c)) (e,d)) (([]:List (Int×mZ)),([]:List (Int×mZ)))
def lE(h:List (Int×mZ))(l:Int):Option (List (Int×Int)):=
 bif !((ay h l).isSome)then some []else jn (λ(o:(List (Int×Int))×(List (Int×Int)))=>match o with|(n,r)=>some n) λi=>dn (λ(m:((List (Int×Int))×(List (Int×Int)))->Option _) (e,a)=>bif decide (0<(a.length:Int))then aj (nO a (λ(k:Int) (j:Int) (f:Int)=>bif ((decide (f=0))||((decide (j<((ay a f).getD (0:Int))))||((decide (j=((ay a f).getD (0:Int))))&&(decide (k<f)))))then some k else some f) (0:Int)) λ(b:Int)=>bif decide (((bc e b ((ay a b).getD (0:Int))).length:Int)=(h.length:Int))then i (bc e b ((ay a b).getD (0:Int)),h6 a b)else bZ ((ay h b).getD []) 0 (λ(s:Int) (d:cL) (p:(List (Int×Int))->Option _) (c:(List (Int×Int)))=>jn (λ(q:(List (Int×Int)))=>p q) λg=>bif (ay (bc e b ((ay a b).getD (0:Int))) d.dm).isSome then g c else bif ((!((ay c d.dm).isSome))||(decide (an (((ay a b).getD (0:Int))+d.fS)<((ay c d.dm).getD (0:Int)))))then g (bc c d.dm (an (((ay a b).getD (0:Int))+d.fS)))else g c) (λ(c:(List (Int×Int)))=>m (bc e b ((ay a b).getD (0:Int)),c)) (h6 a b)else i (e,a)) ([],bc [] l (0:Int))
def sF(t:aK)(e:Int)(b:Int):Option (Int×Bool):=
 aj (m6 t) λ(d:Bool)=>bif !d then some ((0:Int),false)else aj (qg t) λ(c:jP)=>aj (lE c.gZ e) λ(a:(List (Int×Int)))=>some (((ay a b).getD (0:Int)),(ay a b).isSome)
end
end
section
noncomputable section
def pY(b:bH):h9:=
 aj (dP ([]:bH) b) λ(a:bH)=>some a
def GW: h9:=
 aj (dP ([]:bH) []) λ(a:bH)=>some a
def AZ(s:bH):h9:=pY s
def oi(r:bH)(a:Int)(b:Int)(p:Int->Int->fe):h9:=
 dn (λ(i:(Int×(bH))->Option _) (e,f)=>bif decide (e<b)then dn (λ(k:(Int×(bH))->Option _) (c,d)=>jn (λ(n:Bool)=>bif n then aj (bq d (an (c-1))) λ(q:Int)=>aj (bq d c) λ(s:Int)=>aj (e3 d c q) λ(g:bH)=>aj (bq g (an (c-1))) λ(t:Int)=>aj (e3 g (an (c-1)) s) λ(l:bH)=>k (an (c-1),l)else i (an (e+1),d)) λh=>(bif decide (a<c)then aj (bq d c) λ(m:Int)=>aj (bq d (an (c-1))) λ(o:Int)=>aj (p m o) λ(j:Int)=>h (decide (j<0))else h false)) (e,f)else some f) (an (a+1),r)
def oj(j:bH)(a:Int)(b:Int)(n:Int)(k:Int->Int->fe):h9:=
 dR (decide (n<=9223372036854775807))<|gj (n-0).toNat (0:Int) (λ(c:Int) (f:(bH)->Option _) (d:(bH))=>aj (bq d (an (b+(c:Int)))) λ(h:Int)=>aj (bq d (an (a+(c:Int)))) λ(i:Int)=>aj (e3 d (an (a+(c:Int))) h) λ(e:bH)=>aj (bq e (an (b+(c:Int)))) λ(l:Int)=>aj (e3 e (an (b+(c:Int))) i) λ(g:bH)=>f g) (λ(c:Int) (d:(bH))=>some d) j
def r0(k:bH)(a:Int)(m:Int)(b:Int)(f:Int->Int->fe):h9:=
 dn (λ(g:(Int×Int×(bH))->Option _) (c,d,e)=>bif !decide (c=d)then bif decide (d<c)then aj (oj e (an (m-c)) m d f) λ(j:(bH))=>g (an (c-d),d,j)else aj (oj e (an (m-c)) (an ((an (m+d))-c)) c f) λ(h:(bH))=>g (c,an (d-c),h)else aj (oj e (an (m-c)) m c f) λ(i:(bH))=>some i) (an (m-a),an (b-m),k)
def lq:Nat->(bH)->Int->Int->Int->(Int->Int->fe)->h9
 |0,_,_,_,_,_=>none
 |z+1,d,a,m,b,h=>bif decide (an (m-a)=(1:Int))then dn (λ(p:(Int×Int)->Option _) (g,k)=>bif decide (g<k)then aj (bq d (an (Int.fdiv (IntKind.wrap .u64 (an (g+k))) (2 ^ min (1:Int).toNat 64)))) λ(I:Int)=>aj (bq d a) λ(J:Int)=>aj (h I J) λ(D:Int)=>bif decide (D<0)then p (an ((an (Int.fdiv (IntKind.wrap .u64 (an (g+k))) (2 ^ min (1:Int).toNat 64)))+(1:Int)),k)else p (g,an (Int.fdiv (IntKind.wrap .u64 (an (g+k))) (2 ^ min (1:Int).toNat 64)))else dn (λ(E:(Int×(bH))->Option _) (e,o)=>bif decide (e<an (g-1))then aj (bq o (an (e+1))) λ(L:Int)=>aj (bq o e) λ(N:Int)=>aj (e3 o e L) λ(q:bH)=>aj (bq q (an (e+1))) λ(X:Int)=>aj (e3 q (an (e+1)) N) λ(F:bH)=>E (an (e+1),F)else some o) (a,d)) (m,b)else bif decide (an (b-m)=(1:Int))then dn (λ(w:(Int×Int)->Option _) (j,l)=>bif decide (j<l)then aj (bq d m) λ(Q:Int)=>aj (bq d (an (Int.fdiv (IntKind.wrap .u64 (an (j+l))) (2 ^ min (1:Int).toNat 64)))) λ(O:Int)=>aj (h Q O) λ(A:Int)=>bif !(decide (A<0))then w (an ((an (Int.fdiv (IntKind.wrap .u64 (an (j+l))) (2 ^ min (1:Int).toNat 64)))+(1:Int)),l)else w (j,an (Int.fdiv (IntKind.wrap .u64 (an (j+l))) (2 ^ min (1:Int).toNat 64)))else dn (λ(P:(Int×(bH))->Option _) (f,n)=>bif decide (j<f)then aj (bq n (an (f-1))) λ(R:Int)=>aj (bq n f) λ(S:Int)=>aj (e3 n f R) λ(x:bH)=>aj (bq x (an (f-1))) λ(Y:Int)=>aj (e3 x (an (f-1)) S) λ(M:bH)=>P (an (f-1),M)else some n) (m,d)) (a,m)else jn (λ(C:Int×Int)=>match C with|(W,U)=>dn (λ(y:(Int×Int)->Option _) (c,i)=>bif decide (c<i)then aj (bq d (an ((an ((an ((an (Int.fdiv (IntKind.wrap .u64 (an (a+b))) (2 ^ min (1:Int).toNat 64)))+m))-(1:Int)))-(an (Int.fdiv (IntKind.wrap .u64 (an (c+i))) (2 ^ min (1:Int).toNat 64)))))) λ(V:Int)=>aj (bq d (an (Int.fdiv (IntKind.wrap .u64 (an (c+i))) (2 ^ min (1:Int).toNat 64)))) λ(T:Int)=>aj (h V T) λ(B:Int)=>bif !(decide (B<0))then y (an ((an (Int.fdiv (IntKind.wrap .u64 (an (c+i))) (2 ^ min (1:Int).toNat 64)))+(1:Int)),i)else y (c,an (Int.fdiv (IntKind.wrap .u64 (an (c+i))) (2 ^ min (1:Int).toNat 64)))else jn (λ(u:(bH))=>jn (λ(t:(bH))=>bif ((decide (an (Int.fdiv (IntKind.wrap .u64 (an (a+b))) (2 ^ min (1:Int).toNat 64))<an ((an ((an (Int.fdiv (IntKind.wrap .u64 (an (a+b))) (2 ^ min (1:Int).toNat 64)))+m))-c)))&&(decide (an ((an ((an (Int.fdiv (IntKind.wrap .u64 (an (a+b))) (2 ^ min (1:Int).toNat 64)))+m))-c)<b)))then aj (lq z t (an (Int.fdiv (IntKind.wrap .u64 (an (a+b))) (2 ^ min (1:Int).toNat 64))) (an ((an ((an (Int.fdiv (IntKind.wrap .u64 (an (a+b))) (2 ^ min (1:Int).toNat 64)))+m))-c)) b h) λ(G:(bH))=>some G else some t) λv=>bif ((decide (a<c))&&(decide (c<an (Int.fdiv (IntKind.wrap .u64 (an (a+b))) (2 ^ min (1:Int).toNat 64)))))then aj (lq z u a c (an (Int.fdiv (IntKind.wrap .u64 (an (a+b))) (2 ^ min (1:Int).toNat 64))) h) λ(K:(bH))=>v K else v u) λr=>bif ((decide (c<m))&&(decide (m<an ((an ((an (Int.fdiv (IntKind.wrap .u64 (an (a+b))) (2 ^ min (1:Int).toNat 64)))+m))-c))))then aj (r0 d c m (an ((an ((an (Int.fdiv (IntKind.wrap .u64 (an (a+b))) (2 ^ min (1:Int).toNat 64)))+m))-c)) h) λ(H:(bH))=>r H else r d) (W,U)) λs=>bif decide (an (Int.fdiv (IntKind.wrap .u64 (an (a+b))) (2 ^ min (1:Int).toNat 64))<m)then s (an ((an ((an (Int.fdiv (IntKind.wrap .u64 (an (a+b))) (2 ^ min (1:Int).toNat 64)))+m))-b),an (Int.fdiv (IntKind.wrap .u64 (an (a+b))) (2 ^ min (1:Int).toNat 64)))else s (a,m)
def vL(t:bH)(n:Int)(c:Int->Int->fe):h9:=
 dn (λ(k:(Int×Int×(bH))->Option _) (j,d,h)=>bif decide (d<=n)then aj (oi h j d c) λ(o:(bH))=>k (d,an (d+20),o)else aj (oi h j n c) λ(l:(bH))=>dn (λ(p:(Int×(bH))->Option _) (a,g)=>bif decide (a<n)then dn (λ(s:(Int×Int×(bH))->Option _) (b,e,f)=>bif decide (e<=n)then aj (lq fuel f b (an (b+a)) e c) λ(m:(bH))=>s (e,an (e+(an ((2:Int)*a))),m)else jn (λ(r:(bH))=>p (an (a*2),r)) λi=>bif decide (an (b+a)<n)then aj (lq fuel f b (an (b+a)) n c) λ(q:(bH))=>i q else i f) ((0:Int),an ((2:Int)*a),g)else some g) ((20:Int),l)) ((0:Int),(20:Int),t)
def rY(a:bH)(c:Int->Int->fe):h9:=
 aj (vL a (a.length:Int) c) λ(b:(bH))=>some b
def p8(av:kZ)(root:Int)(w:Int):Option ((mR)×(kZ)):=
 aj (oz av w) λ(a:(List (Int×Int)))=>dR (decide (a.length<=100000))<|dR (decide ((dh (a.map Prod.snd)).length<=100000))<|jn (λ(s:(mR))=>bZ av 0 (λ(j:Int) (y:bm) (u:(kZ)->Option _) (c:(kZ))=>jn (λ(t:(kZ))=>u t) λk=>aj (bq c (j:Int)) λ(b:bm)=>bif (((ay a b.Hop.aO).isSome)&&((ay a b.Hop.aJ).isSome))then aj (e3 c (j:Int) (bm.mk b.Hop (an (b.b6-(if(an ((if((ay a root).getD (0:Int))<((ay a b.Hop.aO).getD (0:Int))then((ay a root).getD (0:Int))else((ay a b.Hop.aO).getD (0:Int)))-(if((ay a root).getD (0:Int))<((ay a b.Hop.aJ).getD (0:Int))then((ay a root).getD (0:Int))else((ay a b.Hop.aJ).getD (0:Int)))))>(0:Int)then an ((if((ay a root).getD (0:Int))<((ay a b.Hop.aO).getD (0:Int))then((ay a root).getD (0:Int))else((ay a b.Hop.aO).getD (0:Int)))-(if((ay a root).getD (0:Int))<((ay a b.Hop.aJ).getD (0:Int))then((ay a root).getD (0:Int))else((ay a b.Hop.aJ).getD (0:Int))))else(0:Int)))))) λ(v:kZ)=>k v else k c) (λ(c:(kZ))=>some (s,c)) av) λh=>bZ (dZ (dh (a.map Prod.snd))) 0 (λ(p:Int) (f:Int) (m:(mR)->Option _) (e:(mR))=>bif decide (((ay a root).getD (0:Int))<=f)then h e else aj (bq (dZ (dh (a.map Prod.snd))) (an ((p:Int)+(1:Int)))) λ(i:Int)=>dR (decide (a.length<=100000))<|bZ (dh (a.map Prod.fst)) 0 (λ(x:Int) (l:Int) (q:(bH)->Option _) (d:(bH))=>jn (λ(n:(bH))=>q n) λg=>bif decide (((ay a l).getD (0:Int))<=f)then aj (dP d ([l]:bH)) λ(o:bH)=>g o else g d) (λ(d:(bH))=>aj (dP e ([(bI.mk d (an ((if((ay a root).getD (0:Int))<i then((ay a root).getD (0:Int))else i)-f)))]:mR)) λ(r:mR)=>m r) []) (λ(e:(mR))=>h e) []
def su(a:Int)(b:Int)(c:List (Int×Int)):fe:=
 aj (hB ((ay c b).getD (0:Int)) ((ay c a).getD (0:Int))) λ(d:Int)=>some d
def l2(t:aK)(root:Int)(b:bH):Option ((mR)×Int):=
 aj (ni t root b) λ(h:Int)=>bif !decide (h=0)then some ([],h)else bZ b 0 (λ(z:Int) (k:Int) (m:(List (Int×Int))->Option _) (c:(List (Int×Int)))=>aj (sF t root k) λ(g:Int×Bool)=>bif !g.2 then some ([],(9:Int))else m (bc c k g.1)) (λ(c:(List (Int×Int)))=>aj (AZ b) λ(o:(bH))=>aj (rY o (λ(u:Int) (v:Int)=>su u v c)) λ(r:(bH))=>aj (oM t) λ(s:(kZ))=>jn (λ(q:(mR))=>some (q,(0:Int))) λj=>bZ r 0 (λ(y:Int) (l:Int) (p:((kZ)×(mR))->Option _) (f,a)=>jn (λ(d:(kZ)×(mR))=>match d with|(w,x)=>p (w,x)) λi=>bif decide (l=root)then i (f,a)else aj (p8 f root l) λ(e:(mR)×(kZ))=>bif decide (200<an ((a.length:Int)+(e.1.length:Int)))then j a else aj (dP a e.1) λ(n:mR)=>i (e.2,n)) (λ(d:(kZ)×(mR))=>match d with|(f,a)=>j a) (s,[])) []
end
end
section
noncomputable section
def r4(g:jP)(b:List (Int×Int))(d:Int):h9:=
 bif !((ay b d).isSome)then some []else bZ ((ay g.gZ d).getD []) 0 (λ(j:Int) (c:cL) (f:(bH)->Option _) (a:(bH))=>jn (λ(i:(bH))=>f i) λe=>bif (((ay b c.dm).isSome)&&(decide (an (c.fS+((ay b c.dm).getD (0:Int)))=((ay b d).getD (0:Int)))))then aj (dP a ([c.dm]:bH)) λ(h:bH)=>e h else e a) (λ(a:(bH))=>some a) []
def sx(t:aK)(g:Int)(b:Int):h9:=
 jn (λ(m:Bool)=>bif m then some []else aj (qg t) λ(c:jP)=>aj (lE c.nh b) λ(j:(List (Int×Int)))=>dn (λ(i:((bH)×Int)->Option _) (d,h)=>bif !decide (h=b)then aj (r4 c j h) λ(e:(bH))=>bif decide ((e.length:Int)=(0:Int))then some []else aj (bq e (0:Int)) λ(l:Int)=>aj (dP d ([l]:bH)) λ(a:bH)=>aj (bq a (an ((a.length:Int)-(1:Int)))) λ(n:Int)=>i (a,n)else some d) ([],g)) λf=>aj (m6 t) λ(k:Bool)=>(bif !k then f true else f (decide (g=b)))
end
end
section
noncomputable section
def l1(t:aK)(root:Int)(e:bH):Option (b0×Int):=
 aj (ni t root e) λ(f:Int)=>bif !decide (f=0)then some ((b0.mk (0:Int) []),f)else bZ e 0 (λ(o:Int) (h:Int) (j:(List (aQ×Bool))->Option _) (a:(List (aQ×Bool)))=>aj (sx t root h) λ(d:(bH))=>bif ((!decide (h=root))&&(decide ((d.length:Int)=(0:Int))))then some ((b0.mk (0:Int) []),(9:Int))else bZ d 0 (λ(n:Int) (i:Int) (m:(Int×(List (aQ×Bool)))->Option _) (g,b)=>m (i,g7 gH b (aQ.mk g i) true)) (λ(l:Int×(List (aQ×Bool)))=>match l with|(g,b)=>j b) (root,a)) (λ(a:(List (aQ×Bool)))=>dR (decide (a.length<=100000))<|aj (gA (c9 [λc:aQ=>c.aO,λc:aQ=>c.aJ]) (a.map Prod.fst)) λ(k:lR)=>some ((b0.mk root k),(0:Int))) []
end
end
section
noncomputable section
def sL(t:aK)(d:bH)(e:Int):h9:=
 aj (me t d e) λ(c:Int)=>bif ((decide (c=1073741824))||(decide (c=0)))then some []else aj (sR t e) λ(i:(bH))=>bZ i 0 (λ(p:Int) (b:Int) (h:(bH)->Option _) (a:(bH))=>jn (λ(o:(bH))=>h o) λg=>aj (oD t e b) λ(k:Int×Bool)=>jn (λ(m:Bool)=>bif m then aj (dP a ([b]:bH)) λ(j:bH)=>g j else g a) λf=>aj (me t d b) λ(l:Int)=>(bif decide (l<1073741824)then aj (me t d b) λ(n:Int)=>f (decide (an (k.1+n)=c))else f false)) (λ(a:(bH))=>some a) []
def sM(t:aK)(f:Int)(a:Int):h9:=
 jn (λ(m:Bool)=>bif m then some []else aj (qp t a) λ(k:(bH))=>dn (λ(h:(Int×(bH))->Option _) (g,b)=>bif !decide (g=a)then aj (sL t k g) λ(c:(bH))=>bif decide ((c.length:Int)=(0:Int))then some []else aj (bq c (0:Int)) λ(e:Int)=>aj (dP b ([e]:bH)) λ(j:bH)=>h (e,j)else some b) (f,[])) λd=>aj (jd t f) λ(l:Bool)=>(bif !l then d true else aj (jd t a) λ(i:Bool)=>d (!i))
def p9(l:mR)(i:Int)(j:Int):fe:=
 bZ l 0 (λ(m:Int) (b:bI) (e:Int->Option _) (a:Int)=>jn (λ(k:Int)=>e k) λd=>jn (λ(h:Bool)=>bif h then d (an (a+b.Value))else d a) λc=>aj (i5 b.aP j) λ(g:Bool)=>(bif g then aj (i5 b.aP i) λ(f:Bool)=>c (!f)else c false)) (λ(a:Int)=>some a) (0:Int)
def m8(t:aK)(root:Int)(g:bH)(l:mR):Option (Int×Int):=
 aj (oE t root g) λ(h:Int)=>bif !decide (h=0)then some ((0:Int),h)else bif decide (200<(l.length:Int))then some ((0:Int),(1:Int))else bZ l 0 (λ(z:Int) (b:bI) (m:Int->Option _) (d:Int)=>bZ b.aP 0 (λ(y:Int) (f:Int) (i:Bool->Option _) (e:Bool)=>jn (λ(s:Bool)=>bif s then some ((0:Int),(1:Int))else(bif e then i true else aj (i5 g f) λ(o:Bool)=>i o)) λj=>(bif decide (f=root)then j true else aj (jd t f) λ(n:Bool)=>j (!n))) (λ(e:Bool)=>jn (λ(w:Bool)=>bif w then some ((0:Int),(1:Int))else m (an (d+b.Value))) λc=>(bif !e then c true else aj (ot b.aP) λ(r:Bool)=>(bif !r then c true else(bif decide (b.Value<1)then c true else c (decide (24000<b.Value)))))) false) (λ(d:Int)=>bZ t.Links 0 (λ(A:Int) (a:bU) (v:Unit->Option _) ()=>jn (λ(x:Bool)=>bif x then some ((0:Int),(1:Int))else v ()) λk=>aj (p9 l a.A a.B) λ(u:Int)=>(bif decide (a.eE<u)then k true else aj (p9 l a.B a.A) λ(q:Int)=>k (decide (a.eP<q)))) (λ(p:Unit)=>match p with|()=>some (d,(0:Int))) ()) (0:Int)
def oI(l:lR)(b:aQ):Option (List aQ):=
 dn (λ(f:Int->Option _) (a:Int)=>jn (λ(i:Bool)=>bif i then f (an (a+1))else jn (λ(n:Bool)=>bif n then some l else aj (h5 l a (l.length:Int)) λ(g:lR)=>aj (dP ([b]:lR) g) λ(h:lR)=>aj (h5 l (0:Int) a) λ(k:lR)=>aj (dP k h) λ(m:lR)=>some m) λe=>(bif decide (a<(l.length:Int))then aj (bq l a) λ(j:aQ)=>e (gH j b)else e false)) λc=>(bif decide (a<(l.length:Int))then aj (bq l a) λ(d:aQ)=>(bif decide (d.aO<b.aO)then c true else(bif decide (d.aO=b.aO)then c (decide (d.aJ<b.aJ))else c false))else c false)) (0:Int)
def m7(t:aK)(root:Int)(b:bH):Option (b0×Int):=
 aj (oE t root b) λ(d:Int)=>bif !decide (d=0)then some ((b0.mk (0:Int) []),d)else aj (qf t root b) λ(h:Bool)=>bif !h then some ((b0.mk (0:Int) []),(9:Int))else bZ b 0 (λ(o:Int) (m:Int) (g:(lR)->Option _) (c:(lR))=>aj (sM t root m) λ(i:(bH))=>bZ i 0 (λ(n:Int) (f:Int) (k:(Int×(lR))->Option _) (e,a)=>aj (oI a (aQ.mk e f)) λ(l:(lR))=>k (f,l)) (λ(j:Int×(lR))=>match j with|(e,a)=>g a) (root,c)) (λ(c:(lR))=>some ((b0.mk root c),(0:Int))) []
end
end
end
section
open Go Go.Proofs.Tryz
set_option maxRecDepth 100000
set_option linter.all false
def oC{n:Int}{r:Bool}(c:sQ n=some r):bY prog 147 [] [u n] (.bool r):=by
 refine bT func147 rfl rfl ?_;unfold sQ at c;refine aG [] [(0,u n)] []<|au4 [(2,.bool ((decide (1<=n))&&(decide (n<=1000))))] [] (λb=>?_) ?_
 .rcases fl (decide (1<=n))with a|a
  .exact aG [(2,ai (be a)),(6,ai (gl (q:=decide (n<=1000)) a))] _ _ b
  exact aG [(2,ai (be a)),(6,ai (gP (q:=decide (n<=1000)) a))] _ _ b
 cases c;exact A.ret bk
def wO{t:aK}{c:Int}{r:Bool}(a:oH t c=some r):bY prog 148 [] [.agg (aZ t),u c] (.bool r):=by
 refine bT func148 rfl rfl ?_;unfold oH at a;refine aG [(0,.al 117)] [(1,u c),(2,.ptr 117 0)] [(117,.cells 28 (aZ t))]<|A.seq<|ak [] [] [(5,u 0)]<|A.block<|ave 2 0 rfl rfl rfl λk=>?_
 obtain⟨h,i,f,g,a⟩:=cZ a;refine auV (l:=t.aP) (cD:=0) (B:=h) (K:=i) a (λb=>λ()=>[(1,u c),(2,.ptr 117 0),(5,u b)]) (λb=>λ()=>[(117,.cells 28 (aZ t))]) ?_ ?_ ?_
 .exact cq
 .rintro b m n ⟨⟩ j d a;rw[f]at a;refine A.seq<|ak [(3,ai (bu cp t.aP))] [] [(10,.d ((b:Int)<t.aP.length))] ?_
  refine aT (cU d)<|A.skip<|A.seq<|A.block<|ak [(3,bh (ix cp (cf d)))] [10] [(20,.d (m.b7=c))] ?_
  rcases aV a with⟨e,a⟩|⟨e,a⟩
  .refine aT e<|aG [] [(4,.bool true)] [] ?_
   cases a;exact A.ret bk
  exact aS e<|A.skip<|bn [(1,ai (cK d k))] [5,20] [(5,u ((b+1:Nat):Int))]<|aX () a
 rintro b ⟨⟩ j ch a;rw[g]at a;refine A.seq<|ak [(3,ai (bu cp t.aP))] [] [(10,.d ((b:Int)<t.aP.length))] ?_
 refine aS (cT ch)<|A.exit<|aG [] [(4,.bool false)] [] ?_
 cases a;exact A.ret bk
def Bf{t:aK}{d:Int}{c:Int}{r:Int×Bool}(a:oD t d c=some r):bY prog 150 [] [.agg (aZ t),u d,u c] (.bO [u r.1,.bool r.2]):=by
 refine bT func150 rfl rfl ?_;unfold oD at a;refine aG [(0,.al 101)] [(1,u d),(2,u c),(3,.ptr 101 0)] [(101,.cells 28 (aZ t))]<|A.seq<|ak [] [] [(8,u 0)]<|A.block<|ave 3 1 rfl rfl rfl λv=>?_
 obtain⟨o,p,m,n,a⟩:=cZ a;refine auV (l:=t.Links) (cD:=0) (B:=o) (K:=p) a (λe=>λ()=>[(1,u d),(2,u c),(3,.ptr 101 0),(8,u e)]) (λe=>λ()=>[(101,.cells 28 (aZ t))]) ?_ ?_ ?_
 .exact cq
 .rintro e b w ⟨⟩ s i a;rw[m]at a;refine A.seq<|ak [(3,ai (bu cC t.Links))] [] [(14,.d ((e:Int)<t.Links.length))] ?_
  refine aT (cU i)<|A.skip<|A.seq<|A.block<|bD [(3,bh (ix cC (cf i))),(5,.al 154)] [14] [(9,.ptr 154 0)] [] [(154,.cells 62 (de b))]<|A.seq<|au4 [(1,u d),(2,u c),(3,.ptr 101 0),(8,u e),(9,.ptr 154 0),(31,.bool ((decide (b.A=d))&&(decide (b.B=c))))] [(101,.cells 28 (aZ t)),(154,.cells 62 (de b))] (λh=>?_) ?_
  .rcases fl (decide (b.A=d))with g|g
   .exact aG [(4,ai (be g)),(9,ai (gl (q:=decide (b.B=c)) g))] _ _ h
   exact aG [(4,ai (be g)),(9,ai (gP (q:=decide (b.B=c)) g))] _ _ h
  rcases aV a with⟨j,a⟩|⟨j,a⟩
  .refine aT j<|aG [] [(6,u b.eE),(7,.bool true)] [] ?_
   cases a;exact A.ret bk
  refine aS j<|A.skip<|au4 [(1,u d),(2,u c),(3,.ptr 101 0),(8,u e),(9,.ptr 154 0),(43,.bool ((decide (b.B=d))&&(decide (b.A=c))))] [(101,.cells 28 (aZ t)),(154,.cells 62 (de b))] (λh=>?_) ?_
  .rcases fl (decide (b.B=d))with f|f
   .exact aG [(4,ai (be f)),(9,ai (gl (q:=decide (b.A=c)) f))] _ _ h
   exact aG [(4,ai (be f)),(9,ai (gP (q:=decide (b.A=c)) f))] _ _ h
  rcases aV a with⟨k,a⟩|⟨k,a⟩
  .refine aT k<|aG [] [(6,u b.eP),(7,.bool true)] [] ?_
   cases a;exact A.ret bk
  exact aS k<|A.skip<|c6 [(1,ai (cK i v))] [8,9,43] [(8,u ((e+1:Nat):Int))] [154] []<|aX () a
 rintro e ⟨⟩ s ch a;rw[n]at a;refine A.seq<|ak [(3,ai (bu cC t.Links))] [] [(14,.d ((e:Int)<t.Links.length))] ?_
 refine aS (cT ch)<|A.exit<|aG [] [(6,u 0),(7,.bool false)] [] ?_
 cases a;exact A.ret bk
def sv{t:aK}{r:Int}(a:nj t=some r):bY prog 77 [] [.agg (aZ t)] (u r):=by
 refine bT func77 rfl rfl ?_;unfold nj at a;refine aG [(0,.al 26)] [(1,.ptr 26 0)] [(26,.cells 28 (aZ t))]<|A.seq<|au4 [(1,.ptr 26 0),(21,.bool ((decide (24<(t.aP.length:Int)))||(decide (60<(t.Links.length:Int)))))] [(26,.cells 28 (aZ t))] (λd=>?_) ?_
 .rcases fl (decide (24<(t.aP.length:Int)))with o|o
  .exact aG [(2,ai (bu cp t.aP)),(4,ai (be o)),(9,ai (k4 (q:=decide (60<(t.Links.length:Int))) o))] _ _ d
  exact aG [(2,ai (bu cp t.aP)),(4,ai (be o)),(7,ai (bu cC t.Links)),(9,ai (iQ (q:=decide (60<(t.Links.length:Int))) o))] _ _ d
 rcases aV a with⟨C,a⟩|⟨C,a⟩
 .refine aT C<|aG [] [(2,u 3)] [] ?_
  cases a;exact A.ret bk
 refine aS C<|A.skip<|A.seq<|ak [] [21] [(3,u 0)]<|A.block<|ave 1 0 rfl rfl rfl λaf=>?_
 obtain⟨aa,ab,Y,Z,a⟩:=cZ a;refine auV (l:=t.aP) (cD:=0) (B:=aa) (K:=ab) a (λe=>λ()=>[(1,.ptr 26 0),(3,u e)]) (λe=>λ()=>[(26,.cells 28 (aZ t))]) ?_ ?_ ?_
 .exact cq
 .rintro e w bL ⟨⟩ ae m a;rw[Y]at a;refine A.seq<|ak [(3,ai (bu cp t.aP))] [] [(26,.d ((e:Int)<t.aP.length))] ?_
  refine aT (cU m)<|A.skip<|A.seq<|A.block<|au4 [(1,.ptr 26 0),(3,u e),(44,.bool ((decide (w.b7<1))||(decide (99<w.b7))))] [(26,.cells 28 (aZ t))] (λd=>?_) ?_
  .rcases fl (decide (w.b7<1))with n|n
   .exact aG [(3,bh (ix cp (cf m))),(7,ai (be n)),(15,ai (k4 (q:=decide (99<w.b7)) n))] _ _ d
   exact aG [(3,bh (ix cp (cf m))),(7,ai (be n)),(11,bh (ix cp (cf m))),(15,ai (iQ (q:=decide (99<w.b7)) n))] _ _ d
  rcases aV a with⟨I,a⟩|⟨I,a⟩
  .refine aT I<|aG [] [(2,u 2)] [] ?_
   cases a;exact A.ret bk
  exact aS I<|A.skip<|bn [(1,ai (cK m af))] [3,44] [(3,u ((e+1:Nat):Int))]<|aX () a
 rintro e ⟨⟩ ae ch a;rw[Z]at a;refine A.seq<|ak [(3,ai (bu cp t.aP))] [] [(26,.d ((e:Int)<t.aP.length))] ?_
 refine aS (cT ch)<|A.exit<|A.seq<|ak [] [3,26] [(4,u 1)]<|A.block<|ave 1 0 rfl rfl rfl λam=>?_
 obtain⟨ax,aD,az,aA,a⟩:=cZ a;refine auV (l:=t.aP) (cD:=1) (B:=ax) (K:=aD) a (λi=>λ()=>[(1,.ptr 26 0),(4,u i)]) (λi=>λ()=>[(26,.cells 28 (aZ t))]) ?_ ?_ ?_
 .exact cq
 .rintro i bF b1 ⟨⟩ aF F a;rw[az]at a;refine A.seq<|ak [(3,ai (bu cp t.aP))] [] [(49,.d ((i:Int)<t.aP.length))] ?_
  refine aT (cU F)<|A.skip<|A.seq<|A.block ?_
  obtain⟨ao,bJ,a⟩:=aB a;refine ak [(4,bh (ix cp bJ)),(10,bh (ix cp (cf F)))] [49] [(65,.d (bF.b7<=ao.b7))] ?_;rcases aV a with⟨E,a⟩|⟨E,a⟩
  .refine aT E<|aG [] [(2,u 25)] [] ?_
   cases a;exact A.ret bk
  exact aS E<|A.skip<|bn [(1,ai (cK F am))] [4,65] [(4,u ((i+1:Nat):Int))]<|aX () a
 rintro i ⟨⟩ aF aE a;rw[aA]at a;refine A.seq<|ak [(3,ai (bu cp t.aP))] [] [(49,.d ((i:Int)<t.aP.length))] ?_
 refine aS (cT aE)<|A.exit<|A.seq<|ak [] [4,49] [(5,u 0)]<|A.block<|ave 1 1 rfl rfl rfl λaM=>?_
 obtain⟨aR,aU,aW,aY,a⟩:=cZ a;refine auV (l:=t.Links) (cD:=0) (B:=aR) (K:=aU) a (λf=>λ()=>[(1,.ptr 26 0),(5,u f)]) (λf=>λ()=>[(26,.cells 28 (aZ t))]) ?_ ?_ ?_
 .exact cq
 .rintro f G b4 ⟨⟩ aI M a;rw[aW]at a;refine A.seq<|ak [(3,ai (bu cC t.Links))] [] [(70,.d ((f:Int)<t.Links.length))] ?_
  refine aT (cU M)<|A.skip<|A.seq<|A.block<|bD [(3,bh (ix cC (cf M))),(5,.al 248)] [70] [(6,.ptr 248 0)] [] [(248,.cells 62 (de G))] ?_
  obtain⟨an,ar,a⟩:=dx a;refine A.J (J:=an) (r:=r) (λH=>[(1,.ptr 26 0),(5,u f),(97,.bool H)]) (λH=>[(26,.cells 28 (aZ t))]) ?_ ?_
  .obtain⟨bW,x,a⟩:=aB a;rcases aV a with⟨p,a⟩|⟨p,a⟩
   .exact c6 [(2,a1 (oC x) o9),(4,ai (be p))] [6] [(97,.bool true)] [248] []<|aX true a
   obtain⟨bP,D,a⟩:=aB a;rcases aV a with⟨y,a⟩|⟨y,a⟩
   .exact c6 [(2,a1 (oC x) o9),(4,ai (be p)),(7,a1 (oC D) o9),(10,ai (be y))] [6] [(97,.bool true)] [248] []<|aX true a
   rcases aV a with⟨L,a⟩|⟨L,a⟩
   .exact c6 [(2,a1 (oC x) o9),(4,ai (be p)),(7,a1 (oC D) o9),(10,ai (be y)),(15,ai (be L))] [6] [(97,.bool true)] [248] []<|aX true a
   exact c6 [(2,a1 (oC x) o9),(4,ai (be p)),(7,a1 (oC D) o9),(10,ai (be y)),(15,ai (be L))] [6] [(97,.d (1000<G.lJ))] [248] []<|aX (decide (1000<G.lJ)) a
  rintro H a;rw[ar]at a;rcases aV a with⟨O,a⟩|⟨O,a⟩
  .refine aT O<|aG [] [(2,u 2)] [] ?_
   cases a;exact A.ret bk
  exact aS O<|A.skip<|bn [(1,ai (cK M aM))] [5,97] [(5,u ((f+1:Nat):Int))]<|aX () a
 rintro f ⟨⟩ aI aC a;rw[aY]at a;refine A.seq<|ak [(3,ai (bu cC t.Links))] [] [(70,.d ((f:Int)<t.Links.length))] ?_
 refine aS (cT aC)<|A.exit<|A.seq<|ak [] [5,70] [(7,u 0)]<|A.block<|ave 1 1 rfl rfl rfl λa8=>?_
 obtain⟨a4,a5,a6,a7,a⟩:=cZ a;refine auV (l:=t.Links) (cD:=0) (B:=a4) (K:=a5) a (λg=>λ()=>[(1,.ptr 26 0),(7,u g)]) (λg=>λ()=>[(26,.cells 28 (aZ t))]) ?_ ?_ ?_
 .exact cq
 .rintro g ca cb ⟨⟩ a3 s a;rw[a6]at a;refine A.seq<|ak [(3,ai (bu cC t.Links))] [] [(102,.d ((g:Int)<t.Links.length))] ?_
  refine aT (cU s)<|A.skip<|A.seq<|A.block ?_
  obtain⟨ag,aw,a⟩:=dx a;refine A.J (J:=ag) (r:=r) (λN=>[(1,.ptr 26 0),(7,u g),(124,.bool N)]) (λN=>[(26,.cells 28 (aZ t))]) ?_ ?_
  .obtain⟨bV,U,a⟩:=aB a;rcases aV a with⟨P,a⟩|⟨P,a⟩
   .exact bn [(4,bh (ix cC (cf s))),(7,a1 (wO U) u1),(9,ai (be P))] [102] [(124,.bool true)]<|aX true a
   obtain⟨V,X,a⟩:=aB a;exact bn [(4,bh (ix cC (cf s))),(7,a1 (wO U) u1),(9,ai (be P)),(14,bh (ix cC (cf s))),(17,a1 (wO X) u1)] [102] [(124,.bool (!V))]<|aX (!V) a
  rintro N a;rw[aw]at a;rcases aV a with⟨Q,a⟩|⟨Q,a⟩
  .refine aT Q<|aG [] [(2,u 4)] [] ?_
   cases a;exact A.ret bk
  exact aS Q<|A.skip<|bn [(1,ai (cK s a8))] [7,124] [(7,u ((g+1:Nat):Int))]<|aX () a
 rintro g ⟨⟩ a3 a0 a;rw[a7]at a;refine A.seq<|ak [(3,ai (bu cC t.Links))] [] [(102,.d ((g:Int)<t.Links.length))] ?_
 refine aS (cT a0)<|A.exit<|A.seq<|ak [] [7,102] [(8,u 0)]<|A.block<|ave 1 1 rfl rfl rfl λbE=>?_
 obtain⟨bl,bj,bv,bx,a⟩:=cZ a;refine auV (l:=t.Links) (cD:=0) (B:=bl) (K:=bj) a (λj=>λ()=>[(1,.ptr 26 0),(8,u j)]) (λj=>λ()=>[(26,.cells 28 (aZ t))]) ?_ ?_ ?_
 .exact cq
 .rintro j W cd ⟨⟩ br z a;rw[bv]at a;refine A.seq<|ak [(3,ai (bu cC t.Links))] [] [(129,.d ((j:Int)<t.Links.length))] ?_
  refine aT (cU z)<|A.skip<|A.seq<|A.block<|ak [(3,bh (ix cC (cf z))),(9,bh (ix cC (cf z)))] [129] [(144,.d (W.B<=W.A))] ?_
  rcases aV a with⟨R,a⟩|⟨R,a⟩
  .refine aT R<|aG [] [(2,u 8)] [] ?_
   cases a;exact A.ret bk
  exact aS R<|A.skip<|bn [(1,ai (cK z bE))] [8,144] [(8,u ((j+1:Nat):Int))]<|aX () a
 rintro j ⟨⟩ br bs a;rw[bx]at a;refine A.seq<|ak [(3,ai (bu cC t.Links))] [] [(129,.d ((j:Int)<t.Links.length))] ?_
 refine aS (cT bs)<|A.exit<|A.seq<|ak [] [8,129] [(9,u 1)]<|A.block<|ave 1 1 rfl rfl rfl λbA=>?_
 obtain⟨bg,bi,bc,bf,a⟩:=cZ a;refine auV (l:=t.Links) (cD:=1) (B:=bg) (K:=bi) a (λh=>λ()=>[(1,.ptr 26 0),(9,u h)]) (λh=>λ()=>[(26,.cells 28 (aZ t))]) ?_ ?_ ?_
 .exact cq
 .rintro h c ce ⟨⟩ a9 T a;rw[bc]at a;refine A.seq<|ak [(3,ai (bu cC t.Links))] [] [(149,.d ((h:Int)<t.Links.length))] ?_
  refine aT (cU T)<|A.skip<|A.seq<|A.block ?_
  obtain⟨b,aq,a⟩:=aB a;refine bD [(4,bh (ix cC aq)),(9,bh (ix cC (cf T))),(11,.al 249),(12,.al 250)] [149] [(10,.ptr 249 0),(11,.ptr 250 0)] [] [(249,.cells 62 (de b)),(250,.cells 62 (de c))]<|au4 [(1,.ptr 26 0),(9,u h),(181,.bool ((decide (c.A<b.A))||((decide (b.A=c.A))&&(decide (c.B<=b.B)))))] [(26,.cells 28 (aZ t))] (λd=>?_) ?_
  .rcases fl (decide (c.A<b.A))with k|k
   .exact aG [(5,ai (be k)),(18,ai (k4 (q:=((decide (b.A=c.A))&&(decide (c.B<=b.B)))) k))] _ _ d
   rcases fl (decide (b.A=c.A))with v|v
   .exact aG [(5,ai (be k)),(11,ai (be v)),(18,ai ((gl (q:=decide (c.B<=b.B)) v).trans (iQ (q:=((decide (b.A=c.A))&&(decide (c.B<=b.B)))) k)))] _ _ d
   exact aG [(5,ai (be k)),(11,ai (be v)),(18,ai ((gP (q:=decide (c.B<=b.B)) v).trans (iQ (q:=((decide (b.A=c.A))&&(decide (c.B<=b.B)))) k)))] _ _ d
  rcases aV a with⟨S,a⟩|⟨S,a⟩
  .refine aT S<|aG [] [(2,u 25)] [] ?_
   cases a;exact A.ret bk
  exact aS S<|A.skip<|bn [(1,ai (cK T bA))] [9,181] [(9,u ((h+1:Nat):Int))]<|aX () a
 rintro h ⟨⟩ a9 ba a;rw[bf]at a;refine A.seq<|ak [(3,ai (bu cC t.Links))] [] [(149,.d ((h:Int)<t.Links.length))] ?_
 refine aS (cT ba)<|A.exit<|aG [] [(2,u 0)] [] ?_
 cases a;exact A.ret bk
variable {WU:Int}{t:aK}
def lF{r:Bool}(a:jd t WU=some r):bY prog 79 [] [.agg (aZ t),u WU] (.bool r):=by
 refine bT func79 rfl rfl ?_;unfold jd at a;refine aG [(0,.al 256)] [(1,u WU),(2,.ptr 256 0)] [(256,.cells 28 (aZ t))] ?_;obtain⟨f,c,a⟩:=aB a;rcases aV a with⟨b,a⟩|⟨b,a⟩
 .obtain⟨e,d,a⟩:=aB a;refine aG [(1,a1 (sv c) rM),(3,ai (be b)),(6,a1 (wO d) u1)] [(4,.bool e)] [] ?_;cases a;exact A.ret bk
 refine aG [(1,a1 (sv c) rM),(3,ai (be b))] [(4,.bool false)] [] ?_;cases a;exact A.ret bk
def Hq{c:Int}{d:Int}{r:Int×Bool}(a:ql t c d=some r):bY prog 80 [] [.agg (aZ t),u c,u d] (.bO [u r.1,.bool r.2]):=by
 refine bT func80 rfl rfl ?_;unfold ql at a;refine aG [(0,.al 190)] [(1,u c),(2,u d),(3,.ptr 190 0)] [(190,.cells 28 (aZ t))]<|A.seq ?_
 obtain⟨g,h,a⟩:=aB a;refine ak [(1,a1 (sv h) rM)] [] [(10,.bool (!decide (g=0)))] ?_;rcases aV a with⟨b,a⟩|⟨b,a⟩
 .refine aT b<|aG [] [(6,u 0),(7,.bool false)] [] ?_
  cases a;exact A.ret bk
 refine aS b<|A.skip ?_
 obtain⟨e,f,a⟩:=aB a;refine aG [(3,a1 (Bf f) zX)] [(6,u e.1),(7,.bool e.2)] [] ?_;cases a;exact A.ret bk
def HW{r:(bH)}(a:sR t WU=some r):bY prog 197 [] [.agg (aZ t),u WU] (aD af r):=by
 refine bT func197 rfl rfl ?_;unfold sR at a;refine aG [(0,.al 87)] [(1,u WU),(2,.ptr 87 0)] [(87,.cells 28 (aZ t))]<|ak [] [] [(5,.bC)]<|A.seq<|ak [] [] [(6,u 0)]<|A.block<|ave 2 0 rfl rfl rfl λp=>?_
 obtain⟨m,n,j,k,a⟩:=cZ a;refine auV (l:=t.aP) (cD:=0) (B:=m) (K:=n) a (λb=>λc=>[(1,u WU),(2,.ptr 87 0),(5,.own 105),(6,u b)]) (λb=>λc=>[(87,.cells 28 (aZ t)),(105,.slice 3 1 (ag af c) 0 false)]) ?_ ?_ ?_
 .exact dJ [.ad 5 105 3 1] []
 .rintro b x w c o d a;rw[j]at a;refine A.seq<|ak [(3,ai (bu cp t.aP))] [] [(13,.d ((b:Int)<t.aP.length))] ?_
  refine aT (cU d)<|A.skip ?_
  obtain⟨q,s,a⟩:=dx a;refine A.J (J:=q) (r:=r) (λe=>[(1,u WU),(2,.ptr 87 0),(5,.own 105),(6,u b)]) (λe=>[(87,.cells 28 (aZ t)),(105,.slice 3 1 (ag af e) 0 false)]) ?_ ?_
  .refine A.block ?_;obtain⟨h,v,a⟩:=aB a;refine ak [(5,bh (ix cp (cf d))),(8,a1 (Bf v) zX)] [13] [(8,.bool h.2)]<|ak [] [8] [(28,.bool h.2)] ?_
   rcases aV a with⟨f,a⟩|⟨f,a⟩
   .refine aT f ?_;obtain⟨g,i,a⟩:=aB a;exact c6 [(4,bh (ix cp (cf d))),(8,e9 201 (ap af (bytes:=8) (by decide) i))] [5,28] [(5,.own 201)] [105] [(201,.slice 3 1 (ag af g) 0 false)]<|Exists.intro g (And.intro a (dJ [.eC 201 105] []))
   exact aS f<|A.skip<|aX c a
  rintro e a;rw[s]at a;exact bn [(1,ai (cK d p))] [6] [(6,u ((b+1:Nat):Int))]<|aX e a
 rintro b c o ch a;rw[k]at a;refine A.seq<|ak [(3,ai (bu cp t.aP))] [] [(13,.d ((b:Int)<t.aP.length))] ?_
 refine aS (cT ch)<|A.exit<|bD [] [1,2,5,6,13] [(4,.own 105)] [87] []<|A.ret ?_
 obtain rfl:=e0 a;exact auW aY [.bK [105]] rfl (by kernel_rfl)
variable {Ul:Int}{r:Bool}
def G7(a:qa Ul=some r):bY prog 164 [] [u Ul] (.bool r):=by
 refine bT func164 rfl rfl ?_;unfold qa at a;refine aG [] [(0,u Ul)] []<|aG [] [(2,.bool (!decide (Ul=Ul)))] [] ?_
 cases a;exact A.ret bk
def jM{y:Int}{r:Int}(a:hB Ul y=some r):bY prog 106 [] [u Ul,u y] (u r):=by
 refine bT func106 rfl rfl ?_;unfold hB at a;refine aG [] [(0,u Ul),(1,u y)] [] ?_;obtain⟨h,j,a⟩:=aB a;refine ak [(1,a1 (G7 j) F1)] [] [(5,.bool h)] ?_;obtain⟨c,i,a⟩:=aB a;refine ak [(1,a1 (G7 i) F1)] [] [(6,.bool c)]<|A.seq<|ak [] [5] [(11,.bool h)] ?_
 rcases aV a with⟨e,a⟩|⟨e,a⟩
 .refine aT e<|A.seq<|aG [] [(12,.bool c)] [] ?_
  rcases aV a with⟨d,a⟩|⟨d,a⟩
  .refine aT d<|aG [] [(4,u 0)] [] ?_
   cases a;exact A.ret bk
  refine aS d<|A.skip<|aG [] [(4,u (-1))] [] ?_
  cases a;exact A.ret bk
 refine aS e<|A.skip<|A.seq<|ak [] [6,11] [(13,.bool c)] ?_
 rcases aV a with⟨b,a⟩|⟨b,a⟩
 .refine aT b<|aG [] [(4,u 1)] [] ?_
  cases a;exact A.ret bk
 refine aS b<|A.skip<|A.seq<|ak [] [13] [(16,.d (Ul<y))] ?_
 rcases aV a with⟨g,a⟩|⟨g,a⟩
 .refine aT g<|aG [] [(4,u (-1))] [] ?_
  cases a;exact A.ret bk
 refine aS g<|A.skip<|A.seq<|aG [] [(19,.d (y<Ul))] [] ?_
 rcases aV a with⟨f,a⟩|⟨f,a⟩
 .refine aT f<|aG [] [(4,u 1)] [] ?_
  cases a;exact A.ret bk
 refine aS f<|A.skip<|aG [] [(4,u 0)] [] ?_
 cases a;exact A.ret bk
def sC{b:bH}{r:Int}(a:ku b=some r):bY prog 126 [] [aD af b] (u r):=by
 refine bT func126 rfl rfl ?_;unfold ku at a;refine aG [] [(0,aD af b)] []<|ak [] [] [(3,u 0)]<|A.seq<|ak [(1,ai (bu af b))] [0] [(6,aD af b),(7,u b.length),(8,u 0)]<|A.block<|auX 6 rfl λm=>?_
 obtain⟨i,j,g,h,a⟩:=cZ a;refine auV (l:=b) (cD:=0) (B:=i) (K:=j) a (λc=>λ()=>[(3,u 0),(6,aD af b),(7,u b.length),(8,u c)]) (λc=>λ()=>[]) ?_ ?_ ?_
 .exact cq
 .rintro c f n ⟨⟩ k d a;rw[g]at a;refine ak [] [] [(9,.d ((c:Int)<b.length))]<|A.seq<|aT (cU d)<|A.skip<|A.seq<|A.block<|ak [(0,bh (ix af (cf d)))] [9] [(5,u f)]<|ak [] [] [(14,.bool (!decide (f=0)))] ?_
  rcases aV a with⟨e,a⟩|⟨e,a⟩
  .refine aT e<|aG [] [(2,u f)] [] ?_
   cases a;exact A.ret bk
  exact aS e<|A.skip<|bn [(0,ai (cK d m))] [8,5,14] [(8,u ((c+1:Nat):Int))]<|aX () a
 rintro c ⟨⟩ k ch a;rw[h]at a;refine ak [] [] [(9,.d ((c:Int)<b.length))]<|A.seq<|aS (cT ch)<|A.exit<|aG [] [(2,u 0)] [] ?_
 cases a;exact A.ret bk
variable {dI:Nat}{dY:List U}
def QO{Ul:oK}{target:bU}{g:bU->bU->fe}(eU:bB prog dI)(eV:∀(h:bU) (i:bU) (q:Int),g h i=some q->bY prog dI [] ([.agg (de h),.agg (de i)]++dY) (u q)){r:Int×Bool}(a:rV Ul target g=some r):bY prog 130 [] [aD cC Ul,.agg (de target),.cW dI dY] (.bO [u r.1,.bool r.2]):=by
 refine bT func130 rfl rfl ?_;unfold rV at a;refine aG [(0,.al 100)] [(0,aD cC Ul),(2,.cW dI dY),(4,.ptr 100 0)] [(100,.cells 62 (de target))]<|ak [(1,ai (bu cC Ul))] [] [(8,u Ul.length)]<|ak [] [] [(9,u 0),(10,u Ul.length)]<|A.seq<|A.block ?_
 obtain⟨o,x,p,a⟩:=fQ a;refine au6 (F:=o) a (λ(b,c)=>[(0,aD cC Ul),(2,.cW dI dY),(4,.ptr 100 0),(8,u Ul.length),(9,u b),(10,u c)]) (λ(b,c)=>[(100,.cells 62 (de target))]) ?_ ?_
 .exact cq
 rintro t ⟨b,c⟩ a;rw[p]at a;refine A.seq<|ak [] [] [(17,.d (b<c))] ?_
 rcases aV a with⟨f,a⟩|⟨f,a⟩
 .refine aT f<|A.skip<|A.block<|ak [(4,.sh (1:Int) (by decide))] [17] [(11,u (an (Int.fdiv (IntKind.wrap .u64 (an (b+c))) (2 ^ min (1:Int).toNat 64))))] ?_
  obtain⟨v,s,a⟩:=aB a;obtain⟨n,j,a⟩:=aB a;refine ak [(3,bh (ix cC s)),(6,hI (eV _ _ _ j) eU)] [] [(31,.d (n<0))] ?_;rcases aV a with⟨e,a⟩|⟨e,a⟩
  .exact aT e<|bn [] [9,11,31] [(9,u (an ((an (Int.fdiv (IntKind.wrap .u64 (an (b+c))) (2 ^ min (1:Int).toNat 64)))+(1:Int))))]<|aX (an ((an (Int.fdiv (IntKind.wrap .u64 (an (b+c))) (2 ^ min (1:Int).toNat 64)))+(1:Int)),c) a
  exact aS e<|bn [] [10,11,31] [(10,u (an (Int.fdiv (IntKind.wrap .u64 (an (b+c))) (2 ^ min (1:Int).toNat 64))))]<|aX (b,an (Int.fdiv (IntKind.wrap .u64 (an (b+c))) (2 ^ min (1:Int).toNat 64))) a
 refine aS f<|A.exit ?_
 rcases aV a with⟨d,a⟩|⟨d,a⟩
 .obtain⟨w,m,a⟩:=aB a;obtain⟨l,k,a⟩:=aB a;refine aG [(4,ai (be d)),(8,bh (ix cC m)),(11,hI (eV _ _ _ k) eU)] [(6,u b),(7,.d (l=0))] [] ?_;cases a;exact A.ret bk
 refine aG [(4,ai (be d))] [(6,u b),(7,.bool false)] [] ?_;cases a;exact A.ret bk
def GM{Ul:oO}{target:Int}{g:ck->Int->fe}(eU:bB prog dI)(eV:∀(h:ck) (i:Int) (q:Int),g h i=some q->bY prog dI [] ([.agg (g5 h),u i]++dY) (u q)){r:Int×Bool}(a:pV Ul target g=some r):bY prog 136 [] [aD cp Ul,u target,.cW dI dY] (.bO [u r.1,.bool r.2]):=by
 refine bT func136 rfl rfl ?_;unfold pV at a;refine aG [] [(0,aD cp Ul),(1,u target),(2,.cW dI dY)] []<|ak [(1,ai (bu cp Ul))] [] [(8,u Ul.length)]<|ak [] [] [(9,u 0),(10,u Ul.length)]<|A.seq<|A.block ?_
 obtain⟨o,x,p,a⟩:=fQ a;refine au6 (F:=o) a (λ(b,c)=>[(0,aD cp Ul),(1,u target),(2,.cW dI dY),(8,u Ul.length),(9,u b),(10,u c)]) (λ(b,c)=>[]) ?_ ?_
 .exact cq
 rintro t ⟨b,c⟩ a;rw[p]at a;refine A.seq<|ak [] [] [(17,.d (b<c))] ?_
 rcases aV a with⟨f,a⟩|⟨f,a⟩
 .refine aT f<|A.skip<|A.block<|ak [(4,.sh (1:Int) (by decide))] [17] [(11,u (an (Int.fdiv (IntKind.wrap .u64 (an (b+c))) (2 ^ min (1:Int).toNat 64))))] ?_
  obtain⟨v,s,a⟩:=aB a;obtain⟨n,j,a⟩:=aB a;refine ak [(3,bh (ix cp s)),(6,hI (eV _ _ _ j) eU)] [] [(31,.d (n<0))] ?_;rcases aV a with⟨e,a⟩|⟨e,a⟩
  .exact aT e<|bn [] [9,11,31] [(9,u (an ((an (Int.fdiv (IntKind.wrap .u64 (an (b+c))) (2 ^ min (1:Int).toNat 64)))+(1:Int))))]<|aX (an ((an (Int.fdiv (IntKind.wrap .u64 (an (b+c))) (2 ^ min (1:Int).toNat 64)))+(1:Int)),c) a
  exact aS e<|bn [] [10,11,31] [(10,u (an (Int.fdiv (IntKind.wrap .u64 (an (b+c))) (2 ^ min (1:Int).toNat 64))))]<|aX (b,an (Int.fdiv (IntKind.wrap .u64 (an (b+c))) (2 ^ min (1:Int).toNat 64))) a
 refine aS f<|A.exit ?_
 rcases aV a with⟨d,a⟩|⟨d,a⟩
 .obtain⟨w,m,a⟩:=aB a;obtain⟨l,k,a⟩:=aB a;refine aG [(4,ai (be d)),(8,bh (ix cp m)),(11,hI (eV _ _ _ k) eU)] [(6,u b),(7,.d (l=0))] [] ?_;cases a;exact A.ret bk
 refine aG [(4,ai (be d))] [(6,u b),(7,.bool false)] [] ?_;cases a;exact A.ret bk
variable {TX:bH}
def Rx{v:Int}{r:Int}(a:vW TX v=some r):bY prog 146 [] [aD af TX,u v] (u r):=by
 refine bT func146 rfl rfl ?_;unfold vW at a;refine aG [] [(0,aD af TX),(1,u v)] []<|A.seq<|ak [(1,ai (bu af TX))] [] [(7,u TX.length),(8,u 0)]<|A.block<|auX 0 rfl λj=>?_
 obtain⟨g,h,e,f,a⟩:=cZ a;refine auV (l:=TX) (cD:=0) (B:=g) (K:=h) a (λb=>λ()=>[(0,aD af TX),(1,u v),(7,u TX.length),(8,u b)]) (λb=>λ()=>[]) ?_ ?_ ?_
 .exact cq
 .rintro b k m ⟨⟩ i c a;rw[e]at a;refine ak [] [] [(9,.d ((b:Int)<TX.length))]<|A.seq<|aT (cU c)<|A.skip<|A.seq<|A.block<|ak [] [9] [(5,u b)]<|ak [(3,bh (ix af (cf c)))] [] [(16,.d (v=k))] ?_
  rcases aV a with⟨d,a⟩|⟨d,a⟩
  .refine aT d<|aG [] [(4,u b)] [] ?_
   cases a;exact A.ret bk
  exact aS d<|A.skip<|bn [(0,ai (cK c j))] [8,5,16] [(8,u ((b+1:Nat):Int))]<|aX () a
 rintro b ⟨⟩ i ch a;rw[f]at a;refine ak [] [] [(9,.d ((b:Int)<TX.length))]<|A.seq<|aS (cT ch)<|A.exit<|aG [] [(4,u (-1))] [] ?_
 cases a;exact A.ret bk
variable {fh:Nat}{ga:List U}
def Q1{TX:oO}{f:ck->fz}(hF:bB prog fh)(hE:∀(e:ck) (q:Bool),f e=some q->bY prog fh [] ([.agg (g5 e)]++ga) (.bool q)){r:Int}(a:vD TX f=some r):bY prog 180 [] [aD cp TX,.cW fh ga] (u r):=by
 refine bT func180 rfl rfl ?_;unfold vD at a;refine aG [] [(0,aD cp TX),(1,.cW fh ga)] []<|A.seq<|ak [(1,ai (bu cp TX))] [] [(7,u TX.length),(8,u 0)]<|A.block<|auX 0 rfl λn=>?_
 obtain⟨j,k,h,i,a⟩:=cZ a;refine auV (l:=TX) (cD:=0) (B:=j) (K:=k) a (λb=>λ()=>[(0,aD cp TX),(1,.cW fh ga),(7,u TX.length),(8,u b)]) (λb=>λ()=>[]) ?_ ?_ ?_
 .exact cq
 .rintro b s p ⟨⟩ m c a;rw[h]at a;refine ak [] [] [(9,.d ((b:Int)<TX.length))]<|A.seq<|aT (cU c)<|A.skip<|A.seq<|A.block<|ak [] [9] [(5,u b)] ?_
  obtain⟨g,o,a⟩:=aB a;refine ak [(3,bh (ix cp (cf c))),(5,hI (hE _ _ o) hF)] [] [(16,.bool g)] ?_;rcases aV a with⟨d,a⟩|⟨d,a⟩
  .refine aT d<|aG [] [(4,u b)] [] ?_
   cases a;exact A.ret bk
  exact aS d<|A.skip<|bn [(0,ai (cK c n))] [8,5,16] [(8,u ((b+1:Nat):Int))]<|aX () a
 rintro b ⟨⟩ m ch a;rw[i]at a;refine ak [] [] [(9,.d ((b:Int)<TX.length))]<|A.seq<|aS (cT ch)<|A.exit<|aG [] [(4,u (-1))] [] ?_
 cases a;exact A.ret bk
def Q5{TX:oK}{f:bU->fz}(hF:bB prog fh)(hE:∀(e:bU) (q:Bool),f e=some q->bY prog fh [] ([.agg (de e)]++ga) (.bool q)){r:Int}(a:vG TX f=some r):bY prog 181 [] [aD cC TX,.cW fh ga] (u r):=by
 refine bT func181 rfl rfl ?_;unfold vG at a;refine aG [] [(0,aD cC TX),(1,.cW fh ga)] []<|A.seq<|ak [(1,ai (bu cC TX))] [] [(7,u TX.length),(8,u 0)]<|A.block<|auX 0 rfl λn=>?_
 obtain⟨j,k,h,i,a⟩:=cZ a;refine auV (l:=TX) (cD:=0) (B:=j) (K:=k) a (λb=>λ()=>[(0,aD cC TX),(1,.cW fh ga),(7,u TX.length),(8,u b)]) (λb=>λ()=>[]) ?_ ?_ ?_
 .exact cq
 .rintro b s p ⟨⟩ m c a;rw[h]at a;refine ak [] [] [(9,.d ((b:Int)<TX.length))]<|A.seq<|aT (cU c)<|A.skip<|A.seq<|A.block<|ak [] [9] [(5,u b)] ?_
  obtain⟨g,o,a⟩:=aB a;refine ak [(3,bh (ix cC (cf c))),(5,hI (hE _ _ o) hF)] [] [(16,.bool g)] ?_;rcases aV a with⟨d,a⟩|⟨d,a⟩
  .refine aT d<|aG [] [(4,u b)] [] ?_
   cases a;exact A.ret bk
  exact aS d<|A.skip<|bn [(0,ai (cK c n))] [8,5,16] [(8,u ((b+1:Nat):Int))]<|aX () a
 rintro b ⟨⟩ m ch a;rw[i]at a;refine ak [] [] [(9,.d ((b:Int)<TX.length))]<|A.seq<|aS (cT ch)<|A.exit<|aG [] [(4,u (-1))] [] ?_
 cases a;exact A.ret bk
variable {f:Int->fz}
def Re(hF:bB prog fh)(hE:∀(e:Int) (q:Bool),f e=some q->bY prog fh [] ([u e]++ga) (.bool q)){r:Int}(a:vQ TX f=some r):bY prog 195 [] [aD af TX,.cW fh ga] (u r):=by
 refine bT func195 rfl rfl ?_;unfold vQ at a;refine aG [] [(0,aD af TX),(1,.cW fh ga)] []<|A.seq<|ak [(1,ai (bu af TX))] [] [(7,u TX.length),(8,u 0)]<|A.block<|auX 0 rfl λn=>?_
 obtain⟨j,k,h,i,a⟩:=cZ a;refine auV (l:=TX) (cD:=0) (B:=j) (K:=k) a (λb=>λ()=>[(0,aD af TX),(1,.cW fh ga),(7,u TX.length),(8,u b)]) (λb=>λ()=>[]) ?_ ?_ ?_
 .exact cq
 .rintro b s p ⟨⟩ m c a;rw[h]at a;refine ak [] [] [(9,.d ((b:Int)<TX.length))]<|A.seq<|aT (cU c)<|A.skip<|A.seq<|A.block<|ak [] [9] [(5,u b)] ?_
  obtain⟨g,o,a⟩:=aB a;refine ak [(3,bh (ix af (cf c))),(5,hI (hE _ _ o) hF)] [] [(16,.bool g)] ?_;rcases aV a with⟨d,a⟩|⟨d,a⟩
  .refine aT d<|aG [] [(4,u b)] [] ?_
   cases a;exact A.ret bk
  exact aS d<|A.skip<|bn [(0,ai (cK c n))] [8,5,16] [(8,u ((b+1:Nat):Int))]<|aX () a
 rintro b ⟨⟩ m ch a;rw[i]at a;refine ak [] [] [(9,.d ((b:Int)<TX.length))]<|A.seq<|aS (cT ch)<|A.exit<|aG [] [(4,u (-1))] [] ?_
 cases a;exact A.ret bk
def pW{v:Int}(a:l0 TX v=some r):bY prog 76 [] [aD af TX,u v] (.bool r):=by
 refine bT func76 rfl rfl ?_;unfold l0 at a;refine aG [] [(0,aD af TX),(1,u v)] [] ?_;obtain⟨b,c,a⟩:=aB a;refine aG [(2,a1 (Rx c) OV)] [(4,.d (0<=b))] [] ?_;cases a;exact A.ret bk
def QS{TX:oO}{f:ck->fz}(hF:bB prog fh)(hE:∀(b:ck) (q:Bool),f b=some q->bY prog fh [] ([.agg (g5 b)]++ga) (.bool q))(a:rW TX f=some r):bY prog 132 [] [aD cp TX,.cW fh ga] (.bool r):=by
 refine bT func132 rfl rfl ?_;unfold rW at a;refine aG [] [(0,aD cp TX),(1,.cW fh ga)] [] ?_;obtain⟨c,d,a⟩:=aB a;refine aG [(2,a1 (Q1 (hF:=hF) (hE:=hE) d) O7)] [(4,.d (0<=c))] [] ?_;cases a;exact A.ret bk
def AM{TX:oK}{f:bU->fz}(hF:bB prog fh)(hE:∀(b:bU) (q:Bool),f b=some q->bY prog fh [] ([.agg (de b)]++ga) (.bool q))(a:oh TX f=some r):bY prog 138 [] [aD cC TX,.cW fh ga] (.bool r):=by
 refine bT func138 rfl rfl ?_;unfold oh at a;refine aG [] [(0,aD cC TX),(1,.cW fh ga)] [] ?_;obtain⟨c,d,a⟩:=aB a;refine aG [(2,a1 (Q5 (hF:=hF) (hE:=hE) d) O8)] [(4,.d (0<=c))] [] ?_;cases a;exact A.ret bk
def Rb(hF:bB prog fh)(hE:∀(b:Int) (q:Bool),f b=some q->bY prog fh [] ([u b]++ga) (.bool q))(a:rX TX f=some r):bY prog 170 [] [aD af TX,.cW fh ga] (.bool r):=by
 refine bT func170 rfl rfl ?_;unfold rX at a;refine aG [] [(0,aD af TX),(1,.cW fh ga)] [] ?_;obtain⟨c,d,a⟩:=aB a;refine aG [(2,a1 (Re (hF:=hF) (hE:=hE) d) Pd)] [(4,.d (0<=c))] [] ?_;cases a;exact A.ret bk
def ox{n:Int}{c:Int}{a:Int}(e:nk n c a=some r):bY prog 134 [] [u n,u c,u a] (.bool r):=by
 refine bT func134 rfl rfl ?_;unfold nk at e;refine aG [] [(0,u n),(1,u c),(2,u a)] []<|au4 [(6,.bool ((decide (c<=n))&&(decide (n<=a))))] [] (λd=>?_) ?_
 .rcases fl (decide (c<=n))with b|b
  .exact aG [(3,ai (be b)),(8,ai (gl (q:=decide (n<=a)) b))] _ _ d
  exact aG [(3,ai (be b)),(8,ai (gP (q:=decide (n<=a)) b))] _ _ d
 cases e;exact A.ret bk
def G0{a:bU}{b:bU}{r:Int}(c:p3 a b=some r):bY prog 131 [] [.agg (de a),.agg (de b)] (u r):=by
 refine bT func131 rfl rfl ?_;unfold p3 at c;refine aG [(0,.al 218),(1,.al 219)] [(2,.ptr 218 0),(3,.ptr 219 0)] [(218,.cells 62 (de a)),(219,.cells 62 (de b))] ?_;obtain⟨i,g,c⟩:=aB c;obtain⟨h,d,c⟩:=aB c;obtain⟨e,f,c⟩:=aB c;refine aG [(4,a1 (jM g) j1),(9,a1 (jM d) j1),(11,a1 (sC f) rF)] [(4,u e)] [] ?_;cases c;exact A.ret bk
variable {Y0:ck}{id:Int}
def G8{r:Int}(a:qb Y0 id=some r):bY prog 137 [] [.agg (g5 Y0),u id] (u r):=by
 refine bT func137 rfl rfl ?_;unfold qb at a;refine aG [(0,.al 221)] [(1,u id),(2,.ptr 221 0)] [(221,.cells 31 (g5 Y0))] ?_;obtain⟨b,c,a⟩:=aB a;refine aG [(3,a1 (jM c) j1)] [(4,u b)] [] ?_;cases a;exact A.ret bk
def RF(a:wu Y0=some r):bY prog 133 [] [.agg (g5 Y0)] (.bool r):=by
 refine bT func133 rfl rfl ?_;unfold wu at a;refine aG [(0,.al 220)] [(1,.ptr 220 0)] [(220,.cells 31 (g5 Y0))] ?_;obtain⟨b,c,a⟩:=aB a;refine aG [(2,a1 (ox c) o8)] [(2,.bool (!b))] [] ?_;cases a;exact A.ret bk
variable {l:bU}
def RG(a:r8 l=some r):bY prog 139 [] [.agg (de l)] (.bool r):=by
 refine bT func139 rfl rfl ?_;unfold r8 at a;refine aG [(0,.al 222)] [(1,.ptr 222 0)] [(222,.cells 62 (de l))] ?_;obtain⟨i,d,a⟩:=aB a;rcases aV a with⟨b,a⟩|⟨b,a⟩
 .refine aG [(2,a1 (ox d) o8),(4,ai (be b))] [(2,.bool true)] [] ?_;cases a;exact A.ret bk
 obtain⟨h,e,a⟩:=aB a;rcases aV a with⟨c,a⟩|⟨c,a⟩
 .refine aG [(2,a1 (ox d) o8),(4,ai (be b)),(7,a1 (ox e) o8),(10,ai (be c))] [(2,.bool true)] [] ?_;cases a;exact A.ret bk
 obtain⟨f,g,a⟩:=aB a;refine aG [(2,a1 (ox d) o8),(4,ai (be b)),(7,a1 (ox e) o8),(10,ai (be c)),(13,a1 (ox g) o8)] [(2,.bool (!f))] [] ?_;cases a;exact A.ret bk
variable {W0:aK}
def A2(a:p4 id W0=some r):bY prog 135 [] [u id,.dF (aZ W0)] (.bool r):=by
 refine bT func135 rfl rfl ?_;unfold p4 at a;refine aG [] [(0,u id),(1,.dF (aZ W0))] [] ?_;obtain⟨b,d,a⟩:=aB a;refine aG [(3,a1 (GM (dI:=137) (dY:=[]) (eU:=FV) (eV:=λ_ _ _ c=>G8 c) d) FU)] [(5,.bool b.2)] []<|aG [] [(3,.bool (!b.2))] [] ?_
 cases a;exact A.ret bk
def RH(a:wz l W0=some r):bY prog 140 [] [.agg (de l),.dF [.fn 135 [.dF (aZ W0)]]] (.bool r):=by
 refine bT func140 rfl rfl ?_;unfold wz at a;refine aG [(0,.al 223)] [(1,.dF [.fn 135 [.dF (aZ W0)]]),(2,.ptr 223 0)] [(223,.cells 62 (de l))] ?_;obtain⟨f,c,a⟩:=aB a;rcases aV a with⟨b,a⟩|⟨b,a⟩
 .refine aG [(3,bA [] (A2 c) zV),(4,ai (be b))] [(3,.bool true)] [] ?_;cases a;exact A.ret bk
 obtain⟨e,d,a⟩:=aB a;refine aG [(3,bA [] (A2 c) zV),(4,ai (be b)),(8,bA [] (A2 d) zV)] [(3,.bool e)] [] ?_;cases a;exact A.ret bk
def RI(a:wA l=some r):bY prog 141 [] [.agg (de l)] (.bool r):=by
 refine bT func141 rfl rfl ?_;unfold wA at a;refine aG [(0,.al 224)] [(1,.ptr 224 0)] [(224,.cells 62 (de l))]<|aG [] [(2,.d (l.B<=l.A))] [] ?_
 cases a;exact A.ret bk
variable {t:aK}
def v1{r:Int}(a:m5 t=some r):bY prog 71 [] [.agg (aZ t)] (u r):=by
 refine bT func71 rfl rfl ?_;unfold m5 at a;refine aG [(0,.al 36)] [(1,.ptr 36 0)] [(36,.cells 28 (aZ t))]<|A.seq<|A.block<|au4 [(1,.ptr 36 0),(6,.bool ((decide (24<(t.aP.length:Int)))||(decide (60<(t.Links.length:Int)))))] [(36,.cells 28 (aZ t))] (λC=>?_) ?_
 .rcases fl (decide (24<(t.aP.length:Int)))with e|e
  .exact aG [(2,ai (bu cp t.aP)),(4,ai (be e)),(10,ai (k4 (q:=decide (60<(t.Links.length:Int))) e))] _ _ C
  exact aG [(2,ai (bu cp t.aP)),(4,ai (be e)),(7,ai (bu cC t.Links)),(10,ai (iQ (q:=decide (60<(t.Links.length:Int))) e))] _ _ C
 rcases aV a with⟨h,a⟩|⟨h,a⟩
 .refine aT h<|aG [] [(2,u 3)] [] ?_
  cases a;exact A.ret bk
 refine aS h ?_;obtain⟨L,an,a⟩:=aB a;refine ak [(2,a1 (QS (fh:=133) (ga:=[]) (hF:=OP) (hE:=λ_ _ d=>RF d) an) PF)] [6] [(17,.bool L)] ?_;rcases aV a with⟨g,a⟩|⟨g,a⟩
 .refine aT g<|aG [] [(2,u 2)] [] ?_
  cases a;exact A.ret bk
 refine aS g<|A.skip<|A.seq<|ak [(2,ai (bu cp t.aP))] [17] [(23,u t.aP.length),(24,u 0)]<|A.block<|ave 1 0 rfl rfl rfl λR=>?_
 obtain⟨O,P,M,N,a⟩:=cZ a;refine auV (l:=t.aP) (cD:=0) (B:=O) (K:=P) a (λc=>λ()=>[(1,.ptr 36 0),(23,u t.aP.length),(24,u c)]) (λc=>λ()=>[(36,.cells 28 (aZ t))]) ?_ ?_ ?_
 .exact cq
 .rintro c z ao ⟨⟩ Q f a;rw[M]at a;refine ak [] [] [(25,.d ((c:Int)<t.aP.length))]<|A.seq<|aT (cU f)<|A.skip<|A.seq<|A.block<|ak [] [25] [(3,u c)] ?_
  obtain⟨W,Y,a⟩:=dx a;refine A.J (J:=W) (r:=r) (λk=>[(1,.ptr 36 0),(23,u t.aP.length),(24,u c),(44,.bool k)]) (λk=>[(36,.cells 28 (aZ t))]) ?_ ?_
  .rcases aV a with⟨m,a⟩|⟨m,a⟩
   .obtain⟨x,D,a⟩:=aB a;exact bn [(2,ai (be m)),(7,bh (ix cp D)),(13,bh (ix cp (cf f)))] [3] [(44,.d (z.b7<=x.b7))]<|aX (decide (z.b7<=x.b7)) a
   exact bn [(2,ai (be m))] [3] [(44,.bool false)]<|aX false a
  rintro k a;rw[Y]at a;rcases aV a with⟨i,a⟩|⟨i,a⟩
  .refine aT i<|aG [] [(2,u 25)] [] ?_
   cases a;exact A.ret bk
  exact aS i<|A.skip<|bn [(0,ai (cK f R))] [24,44] [(24,u ((c+1:Nat):Int))]<|aX () a
 rintro c ⟨⟩ Q ch a;rw[N]at a;refine ak [] [] [(25,.d ((c:Int)<t.aP.length))]<|A.seq<|aS (cT ch)<|A.exit<|bD [(1,.al 177)] [23,24,25] [(4,.ptr 177 0)] [] [(177,.c 188 [.fn 135 [.ptr 36 0]])]<|A.seq<|A.block ?_
 obtain⟨F,I,a⟩:=aB a;refine ak [(2,a1 (AM (fh:=139) (ga:=[]) (hF:=OQ) (hE:=λ_ _ d=>RG d) I) zW)] [] [(47,.bool F)] ?_;rcases aV a with⟨n,a⟩|⟨n,a⟩
 .refine aT n<|aG [] [(2,u 2)] [] ?_
  cases a;exact A.ret bk
 refine aS n ?_;obtain⟨G,E,a⟩:=aB a;refine bD [(3,bA [177,36] (AM (fh:=140) (ga:=[.dF [.fn 135 [.dF (aZ t)]]]) (hF:=OR) (hE:=λ_ _ d=>RH d) E) zW)] [4,47] [(51,.bool G)] [177] [] ?_;rcases aV a with⟨p,a⟩|⟨p,a⟩
 .refine aT p<|aG [] [(2,u 4)] [] ?_
  cases a;exact A.ret bk
 refine aS p ?_;obtain⟨V,H,a⟩:=aB a;refine ak [(2,a1 (AM (fh:=141) (ga:=[]) (hF:=OS) (hE:=λ_ _ d=>RI d) H) zW)] [51] [(56,.bool V)] ?_;rcases aV a with⟨o,a⟩|⟨o,a⟩
 .refine aT o<|aG [] [(2,u 8)] [] ?_
  cases a;exact A.ret bk
 refine aS o<|A.skip<|A.seq<|ak [(2,ai (bu cC t.Links))] [56] [(62,u t.Links.length),(63,u 0)]<|A.block<|ave 1 1 rfl rfl rfl λU=>?_
 obtain⟨aa,af,ab,ae,a⟩:=cZ a;refine auV (l:=t.Links) (cD:=0) (B:=aa) (K:=af) a (λb=>λ()=>[(1,.ptr 36 0),(62,u t.Links.length),(63,u b)]) (λb=>λ()=>[(36,.cells 28 (aZ t))]) ?_ ?_ ?_
 .exact cq
 .rintro b aw aq ⟨⟩ am j a;rw[ab]at a;refine ak [] [] [(64,.d ((b:Int)<t.Links.length))]<|A.seq<|aT (cU j)<|A.skip<|A.seq<|A.block<|ak [] [64] [(5,u b)] ?_
  obtain⟨T,Z,a⟩:=dx a;refine A.J (J:=T) (r:=r) (λs=>[(1,.ptr 36 0),(62,u t.Links.length),(63,u b),(82,.bool s)]) (λs=>[(36,.cells 28 (aZ t))]) ?_ ?_
  .rcases aV a with⟨v,a⟩|⟨v,a⟩
   .obtain⟨ar,X,a⟩:=aB a;obtain⟨y,S,a⟩:=aB a;exact bn [(2,ai (be v)),(7,bh (ix cC X)),(12,bh (ix cC (cf j))),(14,a1 (G0 S) FT)] [5] [(82,.d (0<=y))]<|aX (decide (0<=y)) a
   exact bn [(2,ai (be v))] [5] [(82,.bool false)]<|aX false a
  rintro s a;rw[Z]at a;rcases aV a with⟨w,a⟩|⟨w,a⟩
  .refine aT w<|aG [] [(2,u 25)] [] ?_
   cases a;exact A.ret bk
  exact aS w<|A.skip<|bn [(0,ai (cK j U))] [63,82] [(63,u ((b+1:Nat):Int))]<|aX () a
 rintro b ⟨⟩ am ag a;rw[ae]at a;refine ak [] [] [(64,.d ((b:Int)<t.Links.length))]<|A.seq<|aS (cT ag)<|A.exit<|aG [] [(2,u 0)] [] ?_
 cases a;exact A.ret bk
def A4(a:p7 t=some r):bY prog 129 [] [.agg (aZ t)] (.bool r):=by
 refine bT func129 rfl rfl ?_;unfold p7 at a;refine aG [(0,.al 217)] [(1,.ptr 217 0)] [(217,.cells 28 (aZ t))] ?_;obtain⟨b,c,a⟩:=aB a;refine aG [(1,a1 (v1 c) ve)] [(2,.d (b=0))] [] ?_;cases a;exact A.ret bk
variable {XN:Int}
def R2{r:ck×Bool}(a:sB t XN=some r):bY prog 144 [] [.agg (aZ t),u XN] (.bO [.agg (g5 r.1),.bool r.2]):=by
 refine bT func144 rfl rfl ?_;unfold sB at a;refine aG [(0,.al 153),(1,.al 128)] [(1,u XN),(2,.ptr 153 0),(4,.ptr 128 0)] [(153,.cells 28 (aZ t)),(128,.c 31 [u 0,.bool false])] ?_;obtain⟨b,g,a⟩:=aB a;refine ak [(3,a1 (GM (dI:=137) (dY:=[]) (eU:=FV) (eV:=λ_ _ _ f=>G8 f) g) FU)] [1] [(6,u b.1),(7,.bool b.2)]<|A.seq<|ak [] [7] [(16,.bool (!b.2))] ?_
 rcases aV a with⟨c,a⟩|⟨c,a⟩
 .refine aT c<|bD [] [2,6,16] [(5,.bool false)] [153] [] ?_
  cases a;exact A.ret bk
 refine aS c<|A.skip ?_
 obtain⟨e,d,a⟩:=aB a;refine aG [(3,bh (ix cp d))] [(4,.ptr 128 0),(5,.bool true)] [(128,.cells 31 (g5 e))] ?_;cases a;exact A.ret bk
def Ba(a:oB t XN=some r):bY prog 73 [] [.agg (aZ t),u XN] (.bool r):=by
 refine bT func73 rfl rfl ?_;unfold oB at a;refine aG [(0,.al 189)] [(1,u XN),(2,.ptr 189 0)] [(189,.cells 28 (aZ t))] ?_;obtain⟨d,e,a⟩:=aB a;refine ak [(2,a1 (R2 e) OU),(6,.al 73005)] [1] [(6,.bool d.2)] ?_;obtain⟨f,c,a⟩:=aB a;rcases aV a with⟨b,a⟩|⟨b,a⟩
 .refine aG [(1,a1 (A4 c) zU),(2,ai (be b))] [(4,.bool d.2)] [] ?_;cases a;exact A.ret bk
 refine aG [(1,a1 (A4 c) zU),(2,ai (be b))] [(4,.bool false)] [] ?_;cases a;exact A.ret bk
def G9{b:Int}{c:Int}{r:Int×Bool}(a:p6 t b c=some r):bY prog 70 [] [.agg (aZ t),u b,u c] (.bO [u r.1,.bool r.2]):=by
 refine bT func70 rfl rfl ?_;unfold p6 at a;refine aG [(0,.al 132)] [(1,u b),(2,u c),(3,.ptr 132 0)] [(132,.cells 28 (aZ t))]<|A.seq ?_
 obtain⟨k,o,a⟩:=aB a;refine ak [(1,a1 (A4 o) zU)] [] [(12,.bool (!k))] ?_;rcases aV a with⟨g,a⟩|⟨g,a⟩
 .refine aT g<|aG [] [(6,u 0),(7,.bool false)] [] ?_
  cases a;exact A.ret bk
 refine aS g<|A.skip ?_
 obtain⟨e,h,a⟩:=aB a;refine ak [(9,a1 (QO (dI:=131) (dY:=[]) (eU:=FT) (eV:=λ_ _ _ n=>G0 n) h) PE)] [12] [(8,u e.1),(9,.bool e.2)]<|A.seq<|A.block<|ak [] [9] [(26,.bool (!e.2))] ?_
 rcases aV a with⟨f,a⟩|⟨f,a⟩
 .refine aT f<|aG [] [(6,u 0),(7,.bool false)] [] ?_
  cases a;exact A.ret bk
 refine aS f<|ak [] [1,2,26] [(29,.d (b<c))] ?_
 rcases aV a with⟨d,a⟩|⟨d,a⟩
 .refine aT d ?_;obtain⟨l,j,a⟩:=aB a;refine aG [(3,bh (ix cC j))] [(6,u l.eE),(7,.bool true)] [] ?_;cases a;exact A.ret bk
 refine aS d<|A.skip ?_
 obtain⟨m,i,a⟩:=aB a;refine aG [(3,bh (ix cC i))] [(6,u m.eP),(7,.bool true)] [] ?_;cases a;exact A.ret bk
variable {Ul:Int}
def RT{r:Int}(a:Bb Ul=some r):bY prog 207 [] [.int .u64 Ul] (u r):=by
 refine bT func207 rfl rfl ?_;unfold Bb at a;refine aG [] [(0,.int .u64 Ul),(2,u 0)] [] ?_;obtain⟨m,o,a⟩:=dx a;refine A.J (J:=m) (r:=r) (λ(c,d)=>[(0,.int .u64 c),(2,u d)]) (λ(c,d)=>[]) ?_ ?_
 .refine ak [] [] [(4,.d (4294967296<=Ul))] ?_;rcases aV a with⟨j,a⟩|⟨j,a⟩
  .exact aT j<|aG [(1,.sh (32:Int) (by decide))] [(0,.int .u64 (Int.fdiv Ul (2 ^ min (32:Int).toNat 64)))] []<|bn [] [] [(2,u 32)]<|aX (Int.fdiv Ul (2 ^ min (32:Int).toNat 64),(32:Int)) a
  exact aS j<|A.skip<|aX (Ul,(0:Int)) a
 rintro⟨c,d⟩ a;rw[o]at a;obtain⟨l,p,a⟩:=dx a;refine A.J (J:=l) (r:=r) (λ(b,e)=>[(0,.int .u64 b),(2,u e)]) (λ(b,e)=>[]) ?_ ?_
 .refine ak [] [] [(8,.d (65536<=c))] ?_;rcases aV a with⟨i,a⟩|⟨i,a⟩
  .exact aT i<|ak [(1,.sh (16:Int) (by decide))] [0,8] [(0,.int .u64 (Int.fdiv c (2 ^ min (16:Int).toNat 64)))]<|bn [] [2] [(2,u (an (d+16)))]<|aX (Int.fdiv c (2 ^ min (16:Int).toNat 64),an (d+16)) a
  exact aS i<|A.skip<|aX (c,d) a
 rintro⟨b,e⟩ a;rw[p]at a;obtain⟨n,q,a⟩:=dx a;refine A.J (J:=n) (r:=r) (λ(f,g)=>[(0,.int .u64 f),(2,u g)]) (λ(f,g)=>[]) ?_ ?_
 .refine ak [] [] [(14,.d (256<=b))] ?_;rcases aV a with⟨h,a⟩|⟨h,a⟩
  .exact aT h<|ak [(1,.sh (8:Int) (by decide))] [0,14] [(0,.int .u64 (Int.fdiv b (2 ^ min (8:Int).toNat 64)))]<|bn [] [2] [(2,u (an (e+8)))]<|aX (Int.fdiv b (2 ^ min (8:Int).toNat 64),an (e+8)) a
  exact aS h<|A.skip<|aX (b,e) a
 rintro⟨f,g⟩ a;rw[q]at a;obtain⟨k,s,a⟩:=aB a;refine aG [(3,.is (⟨#[0,1,2,2,3,3,3,3,4,4,4,4,4,4,4,4,5,5,5,5,5,5,5,5,5,5,5,5,5,5,5,5,6,6,6,6,6,6,6,6,6,6,6,6,6,6,6,6,6,6,6,6,6,6,6,6,6,6,6,6,6,6,6,6,7,7,7,7,7,7,7,7,7,7,7,7,7,7,7,7,7,7,7,7,7,7,7,7,7,7,7,7,7,7,7,7,7,7,7,7,7,7,7,7,7,7,7,7,7,7,7,7,7,7,7,7,7,7,7,7,7,7,7,7,7,7,7,7,8,8,8,8,8,8,8,8,8,8,8,8,8,8,8,8,8,8,8,8,8,8,8,8,8,8,8,8,8,8,8,8,8,8,8,8,8,8,8,8,8,8,8,8,8,8,8,8,8,8,8,8,8,8,8,8,8,8,8,8,8,8,8,8,8,8,8,8,8,8,8,8,8,8,8,8,8,8,8,8,8,8,8,8,8,8,8,8,8,8,8,8,8,8,8,8,8,8,8,8,8,8,8,8,8,8,8,8,8,8,8,8,8,8,8,8,8,8,8,8,8,8,8,8,8,8,8,8]⟩:ByteArray) (IntKind.wrap .u8 f) k (JJ s))] [(2,u (an (g+(an (k.toNat:Int)))))] [] ?_;cases a;exact A.ret bk
def R3{r:Int}(a:Bi Ul=some r):bY prog 178 [] [.int .u64 Ul] (u r):=by
 refine bT func178 rfl rfl ?_;unfold Bi at a;refine aG [] [(0,.int .u64 Ul)] []<|A.seq<|au1 rfl rfl<|A.skip ?_
 obtain⟨b,c,a⟩:=aB a;refine aG [(1,a1 (RT c) OF)] [(2,u b)] [] ?_;cases a;exact A.ret bk
variable {r:Unit}
def Q6(a:AN=some r):bY prog 216 [] [.bC,u 0,u 0] (.bO []):=by
 refine bT func216 rfl rfl ?_;unfold AN at a;refine aG [] [(0,.bC),(1,u 0),(2,u 0),(6,u 1)] []<|A.block ?_
 obtain⟨b,e,c,a⟩:=fQ a;refine au6 (F:=b) a (λ()=>[(0,.bC),(1,u 0),(2,u 0),(6,u 1)]) (λ()=>[]) ?_ ?_
 .exact cq
 rintro d ⟨⟩ a;rw[c]at a;refine A.seq<|ak [] [] [(12,.bool false)] ?_
 refine au1 rfl rfl<|A.exit ?_
 obtain rfl:=e0 a;exact auW aY [] rfl (by kernel_rfl)
def Ra{b:Int}(a:AU b=some r):bY prog 182 [] [.bC,u 0,u 0,u b] (.bO []):=by
 refine bT func182 rfl rfl ?_;unfold AU at a;refine aG [] [(0,.bC),(1,u 0),(2,u 0),(3,u b),(8,.bool true)] []<|ak [] [] [(9,.bool true)]<|A.block ?_
 obtain⟨c,h,d,a⟩:=fQ a;refine au6 (F:=c) a (λ()=>[(0,.bC),(1,u 0),(2,u 0),(3,u b),(8,.bool true),(9,.bool true)]) (λ()=>[]) ?_ ?_
 .exact cq
 rintro f ⟨⟩ a;rw[d]at a;refine A.block<|ak [] [] [(10,u 0)] ?_
 refine A.seq<|ak [] [] [(23,.bool true)] ?_
 refine au3 rfl rfl ?_;obtain⟨g,e,a⟩:=aB a;refine aG [(3,Gm 1 (Q6 e) OG)] [] [] ?_;cases a;exact A.ret bk
def Rs(a:GU=some r):bY prog 145 [] [.bC] (.bO []):=by
 refine bT func145 rfl rfl ?_;unfold GU at a;refine aG [] [(0,.bC),(2,u 0)] [] ?_;obtain⟨e,c,a⟩:=aB a;obtain⟨d,b,a⟩:=aB a;refine qA [(4,a1 (R3 c) O6),(5,Gm 1 (Ra b) O9)] [] [] ?_;obtain rfl:=e0 a;exact auW aY [] rfl (by kernel_rfl)
end
section
set_option linter.all false
open Go Go.Proofs.Tryz
def awd:Shelf.Ren:=
 {  f:=λa=>match a with|189=>145|125=>178|257=>182|128=>206|129=>207|294=>216|295=>217|296=>218|297=>219|298=>220|299=>221|216=>185|300=>222|301=>223|328=>243|329=>236|330=>237|331=>244|332=>245|215=>164|343=>260|n=>n,t:=λa=>match a with|28=>22|3=>3|46=>178|0=>0|51=>252|53=>254|4=>4|183=>246|182=>245|131=>89|5=>5|9=>9|218=>272|222=>276|228=>289|229=>290|n=>n,g:=λn=>n}
def awb:Lays.n189 prog awd:=
  {mixed:=by kernel_rfl,f125:=Eq.trans func178 (congrArg some (by kernel_rfl)),f128:=Eq.trans func206 (congrArg some (by kernel_rfl)),
     f129:=Eq.trans func207 (congrArg some (by kernel_rfl)),f189:=Eq.trans func145 (congrArg some (by kernel_rfl)),f215:=Eq.trans func164 (congrArg some (by kernel_rfl)),
     f216:=Eq.trans func185 (congrArg some (by kernel_rfl)),f257:=Eq.trans func182 (congrArg some (by kernel_rfl)),f294:=Eq.trans func216 (congrArg some (by kernel_rfl)),
     f295:=Eq.trans func217 (congrArg some (by kernel_rfl)),f296:=Eq.trans func218 (congrArg some (by kernel_rfl)),f297:=Eq.trans func219 (congrArg some (by kernel_rfl)),
     f298:=Eq.trans func220 (congrArg some (by kernel_rfl)),f299:=Eq.trans func221 (congrArg some (by kernel_rfl)),f300:=Eq.trans func222 (congrArg some (by kernel_rfl)),
     f301:=Eq.trans func223 (congrArg some (by kernel_rfl)),f328:=Eq.trans func243 (congrArg some (by kernel_rfl)),f329:=Eq.trans func236 (congrArg some (by kernel_rfl)),
     f330:=Eq.trans func237 (congrArg some (by kernel_rfl)),f331:=Eq.trans func244 (congrArg some (by kernel_rfl)),f332:=Eq.trans func245 (congrArg some (by kernel_rfl)),
     f343:=Eq.trans func260 (congrArg some (by kernel_rfl)),t0:=underlying0,a0:=isAgg0,z0:=sizeOf0,v0:=zeroValue0,t3:=underlying3,a3:=isAgg3,
     z3:=sizeOf3,v3:=zeroValue3,t4:=underlying4,a4:=isAgg4,z4:=sizeOf4,v4:=zeroValue4,t5:=underlying5,a5:=isAgg5,z5:=sizeOf5,
     v5:=zeroValue5,t9:=underlying9,a9:=isAgg9,z9:=sizeOf9,v9:=zeroValue9,t28:=underlying22,a28:=isAgg22,z28:=sizeOf22,v28:=zeroValue22,
     t46:=underlying178,a46:=isAgg178,z46:=sizeOf178,v46:=zeroValue178,t51:=underlying252,a51:=isAgg252,z51:=sizeOf252,v51:=zeroValue252,
     t53:=underlying254,a53:=isAgg254,z53:=sizeOf254,v53:=zeroValue254,t131:=underlying89,a131:=isAgg89,z131:=sizeOf89,v131:=zeroValue89,
     t182:=underlying245,a182:=isAgg245,z182:=sizeOf245,v182:=zeroValue245,t183:=underlying246,a183:=isAgg246,z183:=sizeOf246,v183:=zeroValue246,
     t218:=underlying272,a218:=isAgg272,z218:=sizeOf272,v218:=zeroValue272,t222:=underlying276,a222:=isAgg276,z222:=sizeOf276,v222:=zeroValue276,
     t228:=underlying289,a228:=isAgg289,z228:=sizeOf289,v228:=zeroValue289,t229:=underlying290,a229:=isAgg290,z229:=sizeOf290,v229:=zeroValue290}
def Kj:DO prog 145:=λbE d aR f e c a b=>Any.slices_Sort_int awb bE d aR f e c a b
def DH{d T:Nat}(b:bH)(e:b.length<4611686018427387904):cI prog 145 [(d,.slice T 1 (ag af b) 0 false)] [.own d] (λa c=>a=.bO []/\c=[(d,.slice T 1 (ag af (dh b)) 0 false)]):=
 Io Kj (Rs (r:=()) (by kernel_rfl)) b e
end
section
open Go Go.Proofs.Tryz
set_option maxRecDepth 100000
set_option linter.all false
def RU{t:bH}{r:bR}(b:sq t=some r):cI prog 12 [] [aD af t] (λa d=>a=.ptr 1 0/\d=[(1,.cells 103 (dj r))]):=by
 refine bT func12 rfl rfl ?_;unfold sq at b;refine aG [] [(0,aD af t)] [] ?_;obtain⟨c,e,b⟩:=aB b;refine aG [(2,ai (bu af t)),(4,eZ (sl af e)),(6,.al 197)] [(2,.ptr 197 0)] [(197,.c 103 [aD af c,u 0])]<|A.ret ?_
 obtain rfl:=e0 b;exact auW aY [.eC 197 1] rfl (by kernel_rfl)
variable {r:Int×bR}{t:bR}
def Ru(b:r5 t=some r):cI prog 61 [(1,.cells 103 (dj t))] [.ptr 1 0] (λa d=>a=u r.1/\d=[(1,.cells 103 (dj r.2))]):=by
 refine bT func61 rfl rfl ?_;unfold r5 at b;refine aG [] [(0,.ptr 1 0)] [(1,.cells 103 (dj t))]<|A.seq<|ak [(8,ai (bu af t.L))] [] [(12,.d ((t.L.length:Int)<=t.At))] ?_
 rcases aV b with⟨c,b⟩|⟨c,b⟩
 .refine aT c<|ak [] [0,12] [(2,u 0)] ?_
  cases b;exact A.ret bk
 refine aS c<|A.skip<|bD [] [12] [] [1] [(1,.c 103 [aD af t.L,u (an (t.At+1))])] ?_
 obtain⟨e,f,b⟩:=aB b;refine ak [(9,bh (ix af f))] [0] [(2,u e)] ?_;cases b;exact A.ret bk
def RV{b:Int}{n:Int}{r:Int}(a:sr b n=some r):bY prog 60 [] [u b,u n] (u r):=by
 refine bT func60 rfl rfl ?_;unfold sr at a;refine aG [] [(0,u b),(1,u n)] []<|A.seq<|ak [] [] [(6,.d (n<1))] ?_
 rcases aV a with⟨e,a⟩|⟨e,a⟩
 .refine aT e<|aG [] [(4,u 0)] [] ?_
  cases a;exact A.ret bk
 refine aS e<|A.skip ?_
 obtain⟨h,a⟩:=gC a;refine ak [(2,.qr n (of_decide_eq_true h))] [0,6] [(0,u (Int.tmod b n))] ?_;obtain⟨f,g,a⟩:=dx a;refine A.J (J:=f) (r:=r) (λc=>[(0,u c)]) (λc=>[]) ?_ ?_
 .refine ak [] [] [(11,.d (Int.tmod b n<0))] ?_;rcases aV a with⟨d,a⟩|⟨d,a⟩
  .exact aT d<|qA [] [(0,u (an ((Int.tmod b n)+n)))] []<|aX (an ((Int.tmod b n)+n)) a
  exact aS d<|A.skip<|aX (Int.tmod b n) a
 rintro c a;rw[g]at a;refine aG [] [(4,u c)] [] ?_;cases a;exact A.ret bk
def hT{n:Int}(b:gW t n=some r):cI prog 14 [(1,.cells 103 (dj t))] [.ptr 1 0,u n] (λa f=>a=u r.1/\f=[(1,.cells 103 (dj r.2))]):=by
 refine bT func14 rfl rfl ?_;unfold gW at b;refine aG [] [(0,.ptr 1 0),(1,u n)] [(1,.cells 103 (dj t))] ?_;obtain⟨e,g,b⟩:=aB b;obtain⟨d,c,b⟩:=aB b;refine aG [(1,cS [] (Ru g) Qw),(3,a1 (RV c) Qv)] [(4,u d)] [(1,.cells 103 (dj e.2))] ?_;cases b;exact A.ret bk
def pZ{c:Int}{hi:Int}(b:lz t c hi=some r):cI prog 28 [(1,.cells 103 (dj t))] [.ptr 1 0,u c,u hi] (λa e=>a=u r.1/\e=[(1,.cells 103 (dj r.2))]):=by
 refine bT func28 rfl rfl ?_;unfold lz at b;refine aG [] [(0,.ptr 1 0),(1,u c),(2,u hi)] [(1,.cells 103 (dj t))] ?_;obtain⟨d,f,b⟩:=aB b;refine aG [(6,cS [] (hT f) h8)] [(6,u (an (c+d.1)))] [(1,.cells 103 (dj d.2))] ?_;cases b;exact A.ret bk
variable {l:bH}
def m3(b:km t l=some r):cI prog 59 [(1,.cells 103 (dj t))] [.ptr 1 0,aD af l] (λa e=>a=u r.1/\e=[(1,.cells 103 (dj r.2))]):=by
 refine bT func59 rfl rfl ?_;unfold km at b;refine aG [] [(0,.ptr 1 0),(1,aD af l)] [(1,.cells 103 (dj t))] ?_;obtain⟨d,g,b⟩:=aB b;obtain⟨f,c,b⟩:=aB b;refine aG [(3,ai (bu af l)),(4,cS [] (hT g) h8),(5,bh (ix af c))] [(4,u f)] [(1,.cells 103 (dj d.2))] ?_;cases b;exact A.ret bk
variable {Ub:Int}
def jO{r:Bool}(a:i5 l Ub=some r):bY prog 26 [] [aD af l,u Ub] (.bool r):=by
 refine bT func26 rfl rfl ?_;unfold i5 at a;refine aG [] [(0,aD af l),(1,u Ub)] []<|A.seq<|ak [] [] [(5,u 0)]<|A.block<|auX 0 rfl λj=>?_
 obtain⟨g,h,e,f,a⟩:=cZ a;refine auV (l:=l) (cD:=0) (B:=g) (K:=h) a (λb=>λ()=>[(0,aD af l),(1,u Ub),(5,u b)]) (λb=>λ()=>[]) ?_ ?_ ?_
 .exact cq
 .rintro b k m ⟨⟩ i c a;rw[e]at a;refine A.seq<|ak [(2,ai (bu af l))] [] [(9,.d ((b:Int)<l.length))] ?_
  refine aT (cU c)<|A.skip<|A.seq<|A.block<|ak [(2,bh (ix af (cf c)))] [9] [(17,.d (k=Ub))] ?_
  rcases aV a with⟨d,a⟩|⟨d,a⟩
  .refine aT d<|aG [] [(4,.bool true)] [] ?_
   cases a;exact A.ret bk
  exact aS d<|A.skip<|bn [(1,ai (cK c j))] [5,17] [(5,u ((b+1:Nat):Int))]<|aX () a
 rintro b ⟨⟩ i ch a;rw[f]at a;refine A.seq<|ak [(2,ai (bu af l))] [] [(9,.d ((b:Int)<l.length))] ?_
 refine aS (cT ch)<|A.exit<|aG [] [(4,.bool false)] [] ?_
 cases a;exact A.ret bk
def G2{r:(bH)}(a:qc l Ub=some r):bY prog 46 [] [aD af l,u Ub] (aD af r):=by
 refine bT func46 rfl rfl ?_;unfold qc at a;refine aG [] [(0,aD af l),(1,u Ub)] []<|ak [] [] [(5,u 0)]<|A.seq<|A.block ?_
 obtain⟨x,G,y,a⟩:=fQ a;refine au6 (F:=x) a (λb=>[(0,aD af l),(1,u Ub),(5,u b)]) (λb=>[]) ?_ ?_
 .exact cq
 rintro C b a;rw[y]at a;refine A.seq ?_;obtain⟨s,v,a⟩:=dx a;refine A.J (J:=s) (r:=r) (λf=>[(0,aD af l),(1,u Ub),(5,u b),(18,.bool f)]) (λf=>[]) ?_ ?_
 .rcases aV a with⟨e,a⟩|⟨e,a⟩
  .obtain⟨j,B,a⟩:=aB a;exact bn [(2,ai (bu af l)),(4,ai (be e)),(7,bh (ix af B))] [] [(18,.d (j<Ub))]<|aX (decide (j<Ub)) a
  exact bn [(2,ai (bu af l)),(4,ai (be e))] [] [(18,.bool false)]<|aX false a
 rintro f a;rw[v]at a;rcases aV a with⟨d,a⟩|⟨d,a⟩
 .exact aT d<|A.skip<|A.block<|bn [] [5,18] [(5,u (an (b+1)))]<|aX (an (b+1)) a
 refine aS d<|A.exit<|A.seq ?_
 obtain⟨q,w,a⟩:=dx a;refine A.J (J:=q) (r:=r) (λh=>[(0,aD af l),(1,u Ub),(5,u b),(32,.bool h)]) (λh=>[]) ?_ ?_
 .rcases aV a with⟨c,a⟩|⟨c,a⟩
  .obtain⟨k,m,a⟩:=aB a;exact bn [(2,ai (bu af l)),(4,ai (be c)),(7,bh (ix af m))] [18] [(32,.d (k=Ub))]<|aX (decide (k=Ub)) a
  exact bn [(2,ai (bu af l)),(4,ai (be c))] [18] [(32,.bool false)]<|aX false a
 rintro h a;rw[w]at a;rcases aV a with⟨g,a⟩|⟨g,a⟩
 .refine aT g<|aG [] [(4,aD af l)] [] ?_
  cases a;exact A.ret bk
 refine aS g<|A.skip ?_
 obtain⟨D,o,a⟩:=aB a;obtain⟨p,i,a⟩:=aB a;refine bD [(1,.al 46035),(4,eZ (vl af o)),(5,e9 202 (ap af (bytes:=8) (by decide) i))] [1,32] [(6,.own 202)] [] [(202,.slice 3 1 (ag af p) 0 false)] ?_;obtain⟨E,n,a⟩:=aB a;obtain⟨z,t,a⟩:=aB a;refine auT aY [.bK [202]] [(3,kT (sl af n)),(5,Az 203 rB (ap af (bytes:=8) (by decide) t) (Ay af i (Nat.succ_pos _)))] [(4,.own 203)] [(203,.slice 3 1 (ag af z) 0 false)] (by kernel_rfl)<|A.ret ?_
 obtain rfl:=e0 a;exact auW aY [.bK [203]] rfl (by kernel_rfl)
variable {r:Bool}
def wo{n:Int}(c:qj n=some r):bY prog 149 [] [u n] (.bool r):=by
 refine bT func149 rfl rfl ?_;unfold qj at c;refine aG [] [(0,u n)] []<|au4 [(2,.bool ((decide (1<=n))&&(decide (n<=99))))] [] (λb=>?_) ?_
 .rcases fl (decide (1<=n))with a|a
  .exact aG [(2,ai (be a)),(6,ai (gl (q:=decide (n<=99)) a))] _ _ b
  exact aG [(2,ai (be a)),(6,ai (gP (q:=decide (n<=99)) a))] _ _ b
 cases c;exact A.ret bk
variable {t:b0}
def G3{r:Int}(a:qd t=some r):bY prog 78 [] [.agg (c8 t)] (u r):=by
 refine bT func78 rfl rfl ?_;unfold qd at a;refine aG [(0,.al 23)] [(1,.ptr 23 0)] [(23,.cells 36 (c8 t))] ?_;obtain⟨ar,cC,a⟩:=aB a;refine ak [(2,a1 (wo cC) u2)] [] [(3,.bool ar)]<|A.seq<|ak [(2,ai (bu bl t.Links))] [] [(23,aD bl t.Links),(24,u t.Links.length),(25,u 0)]<|A.block<|auX 23 rfl λG=>?_
 obtain⟨az,aA,aw,ax,a⟩:=cZ a;refine auV (l:=t.Links) (cD:=0) (B:=az) (K:=aA) a (λd=>λs=>[(1,.ptr 23 0),(3,.bool s),(23,aD bl t.Links),(24,u t.Links.length),(25,u d)]) (λd=>λs=>[(23,.cells 36 (c8 t))]) ?_ ?_ ?_
 .exact cq
 .rintro d cz cG s aC o a;rw[aw]at a;refine ak [] [] [(26,.d ((d:Int)<t.Links.length))]<|A.seq<|aT (cU o)<|A.skip<|A.seq<|A.block<|bD [(0,bh (ix bl (cf o))),(2,.al 251)] [26] [(5,.ptr 251 0)] [] [(251,.cells 84 (ec cz))] ?_
  rcases aV a with⟨v,a⟩|⟨v,a⟩
  .obtain⟨cI,X,a⟩:=aB a;rcases aV a with⟨E,a⟩|⟨E,a⟩
   .obtain⟨Y,aq,a⟩:=aB a;exact c6 [(1,ai (be v)),(4,a1 (wo X) u2),(6,ai (be E)),(9,a1 (wo aq) u2)] [3,5] [(3,.bool Y)] [251] []<|bn [(0,ai (cK o G))] [25] [(25,u ((d+1:Nat):Int))]<|aX Y a
   exact c6 [(1,ai (be v)),(4,a1 (wo X) u2),(6,ai (be E))] [3,5] [(3,.bool false)] [251] []<|bn [(0,ai (cK o G))] [25] [(25,u ((d+1:Nat):Int))]<|aX false a
  exact c6 [(1,ai (be v))] [3,5] [(3,.bool false)] [251] []<|bn [(0,ai (cK o G))] [25] [(25,u ((d+1:Nat):Int))]<|aX false a
 rintro d s aC ch a;rw[ax]at a;refine ak [] [] [(26,.d ((d:Int)<t.Links.length))]<|A.seq<|aS (cT ch)<|A.exit<|A.seq<|ak [] [3,23,24,25,26] [(42,.bool (!s))] ?_
 rcases aV a with⟨D,a⟩|⟨D,a⟩
 .refine aT D<|aG [] [(2,u 2)] [] ?_
  cases a;exact A.ret bk
 refine aS D<|A.skip<|A.seq<|ak [] [42] [(6,u 1)]<|A.block<|ave 1 1 rfl rfl rfl λaM=>?_
 obtain⟨aY,a6,aZ,a0,a⟩:=cZ a;refine auV (l:=t.Links) (cD:=1) (B:=aY) (K:=a6) a (λg=>λ()=>[(1,.ptr 23 0),(6,u g)]) (λg=>λ()=>[(23,.cells 36 (c8 t))]) ?_ ?_ ?_
 .exact cq
 .rintro g c cJ ⟨⟩ a8 H a;rw[aZ]at a;refine A.seq<|ak [(3,ai (bu bl t.Links))] [] [(47,.d ((g:Int)<t.Links.length))] ?_
  refine aT (cU H)<|A.skip<|A.seq<|A.block ?_
  obtain⟨b,an,a⟩:=aB a;refine bD [(4,bh (ix bl an)),(9,bh (ix bl (cf H))),(11,.al 252),(12,.al 253)] [47] [(7,.ptr 252 0),(8,.ptr 253 0)] [] [(252,.cells 84 (ec b)),(253,.cells 84 (ec c))]<|au4 [(1,.ptr 23 0),(6,u g),(79,.bool ((decide (c.aO<b.aO))||((decide (b.aO=c.aO))&&(decide (c.aJ<=b.aJ)))))] [(23,.cells 36 (c8 t))] (λW=>?_) ?_
  .rcases fl (decide (c.aO<b.aO))with i|i
   .exact aG [(5,ai (be i)),(18,ai (k4 (q:=((decide (b.aO=c.aO))&&(decide (c.aJ<=b.aJ)))) i))] _ _ W
   rcases fl (decide (b.aO=c.aO))with p|p
   .exact aG [(5,ai (be i)),(11,ai (be p)),(18,ai ((gl (q:=decide (c.aJ<=b.aJ)) p).trans (iQ (q:=((decide (b.aO=c.aO))&&(decide (c.aJ<=b.aJ)))) i)))] _ _ W
   exact aG [(5,ai (be i)),(11,ai (be p)),(18,ai ((gP (q:=decide (c.aJ<=b.aJ)) p).trans (iQ (q:=((decide (b.aO=c.aO))&&(decide (c.aJ<=b.aJ)))) i)))] _ _ W
  rcases aV a with⟨L,a⟩|⟨L,a⟩
  .refine aT L<|aG [] [(2,u 25)] [] ?_
   cases a;exact A.ret bk
  exact aS L<|A.skip<|bn [(1,ai (cK H aM))] [6,79] [(6,u ((g+1:Nat):Int))]<|aX () a
 rintro g ⟨⟩ a8 a7 a;rw[a0]at a;refine A.seq<|ak [(3,ai (bu bl t.Links))] [] [(47,.d ((g:Int)<t.Links.length))] ?_
 refine aS (cT a7)<|A.exit<|A.seq<|ak [(2,ai (bu bl t.Links))] [6,47] [(81,aD bl t.Links),(82,u t.Links.length),(83,u 0)]<|A.block<|auX 81 rfl λba=>?_
 obtain⟨bf,bg,bi,bj,a⟩:=cZ a;refine auV (l:=t.Links) (cD:=0) (B:=bf) (K:=bg) a (λe=>λ()=>[(1,.ptr 23 0),(81,aD bl t.Links),(82,u t.Links.length),(83,u e)]) (λe=>λ()=>[(23,.cells 36 (c8 t))]) ?_ ?_ ?_
 .exact cq
 .rintro e w cN ⟨⟩ a9 N a;rw[bi]at a;refine ak [] [] [(84,.d ((e:Int)<t.Links.length))]<|A.seq<|aT (cU N)<|A.skip<|A.seq<|A.block<|bD [(1,bh (ix bl (cf N))),(3,.al 111)] [84] [(10,.ptr 111 0),(9,u e)] [] [(111,.cells 84 (ec w))]<|A.seq ?_
  obtain⟨h,ao,a⟩:=aB a;refine ak [(3,eZ (sl bl ao)),(4,ai (bu bl h))] [9] [(91,aD bl h),(92,u h.length),(93,u 0)]<|A.block<|auX 91 rfl λbJ=>?_
  obtain⟨bv,bx,bE,bF,a⟩:=cZ a;refine auV (l:=h) (cD:=0) (B:=bv) (K:=bx) a (λj=>λ()=>[(1,.ptr 23 0),(10,.ptr 111 0),(81,aD bl t.Links),(82,u t.Links.length),(83,u e),(91,aD bl h),(92,u h.length),(93,u j)]) (λj=>λ()=>[(23,.cells 36 (c8 t)),(111,.cells 84 (ec w))]) ?_ ?_ ?_
  .exact cq
  .rintro j ae cP ⟨⟩ bs S a;rw[bE]at a;refine ak [] [] [(94,.d ((j:Int)<h.length))]<|A.seq<|aT (cU S)<|A.skip<|A.seq<|A.block<|bD [(0,bh (ix bl (cf S))),(2,.al 254)] [94] [(12,.ptr 254 0)] [] [(254,.cells 84 (ec ae))]<|bD [] [12] [(101,.d (ae.aJ=w.aJ))] [254] [] ?_
   rcases aV a with⟨O,a⟩|⟨O,a⟩
   .refine aT O<|aG [] [(2,u 8)] [] ?_
    cases a;exact A.ret bk
   exact aS O<|A.skip<|bn [(0,ai (cK S bJ))] [93,101] [(93,u ((j+1:Nat):Int))]<|aX () a
  rintro j ⟨⟩ bs br a;rw[bF]at a;refine ak [] [] [(94,.d ((j:Int)<h.length))]<|A.seq<|aS (cT br)<|A.exit<|bD [] [10,91,92,93,94] [(107,.d (w.aJ=t.cH))] [111] [] ?_
  rcases aV a with⟨M,a⟩|⟨M,a⟩
  .refine aT M<|aG [] [(2,u 8)] [] ?_
   cases a;exact A.ret bk
  exact aS M<|A.skip<|bn [(0,ai (cK N ba))] [83,107] [(83,u ((e+1:Nat):Int))]<|aX () a
 rintro e ⟨⟩ a9 a3 a;rw[bj]at a;refine ak [] [] [(84,.d ((e:Int)<t.Links.length))]<|A.seq<|aS (cT a3)<|A.exit<|bD [(2,.al 180)] [81,82,83,84] [(13,.own 180)] [] [(180,.slice 3 1 (ag af ([t.cH]:bH)) 0 false)]<|A.seq<|ak [] [] [(14,.bool true)]<|A.block ?_
 obtain⟨ca,cY,bW,a⟩:=fQ a;refine au6 (F:=ca) a (λ(z,y)=>[(1,.ptr 23 0),(13,.own 42),(14,.bool y)]) (λ(z,y)=>[(23,.cells 36 (c8 t)),(42,.slice 3 1 (ag af z) 0 false)]) ?_ ?_
 .exact dJ [.eC 180 42] []
 rintro cS ⟨z,y⟩ a;rw[bW]at a;refine A.seq<|ak [] [] [(112,.bool y)] ?_
 rcases aV a with⟨P,a⟩|⟨P,a⟩
 .refine aT P<|A.skip<|A.block<|ak [] [14,112] [(14,.bool false)]<|ak [(2,ai (bu bl t.Links))] [] [(114,aD bl t.Links),(115,u t.Links.length),(116,u 0)]<|A.block<|auX 114 rfl λcu=>?_
  obtain⟨b4,cb,bV,b1,a⟩:=cZ a;refine auV (l:=t.Links) (cD:=0) (B:=b4) (K:=cb) a (λf=>λ(n,k)=>[(1,.ptr 23 0),(13,.own 42),(14,.bool k),(114,aD bl t.Links),(115,u t.Links.length),(116,u f)]) (λf=>λ(n,k)=>[(23,.cells 36 (c8 t)),(42,.slice 3 1 (ag af n) 0 false)]) ?_ ?_ ?_
  .exact cq
  .rintro f am cV ⟨n,k⟩ bL U a;rw[bV]at a;refine ak [] [] [(117,.d ((f:Int)<t.Links.length))]<|A.seq<|aT (cU U)<|A.skip ?_
   obtain⟨aR,aU,a⟩:=dx a;refine A.J (J:=aR) (r:=r) (λ(C,x)=>[(1,.ptr 23 0),(13,.own 42),(14,.bool x),(114,aD bl t.Links),(115,u t.Links.length),(116,u f)]) (λ(C,x)=>[(23,.cells 36 (c8 t)),(42,.slice 3 1 (ag af C) 0 false)]) ?_ ?_
   .refine A.block<|bD [(0,bh (ix bl (cf U))),(2,.al 148)] [117] [(16,.ptr 148 0)] [] [(148,.cells 84 (ec am))] ?_
    obtain⟨aI,aW,a⟩:=dx a;refine A.J (J:=aI) (r:=r) (λI=>[(1,.ptr 23 0),(13,.own 42),(14,.bool k),(16,.ptr 148 0),(114,aD bl t.Links),(115,u t.Links.length),(116,u f),(130,.bool I)]) (λI=>[(23,.cells 36 (c8 t)),(42,.slice 3 1 (ag af n) 0 false),(148,.cells 84 (ec am))]) ?_ ?_
    .obtain⟨cM,aa,a⟩:=aB a;rcases aV a with⟨Q,a⟩|⟨Q,a⟩
     .obtain⟨ab,aF,a⟩:=aB a;exact bn [(3,bA [42] (jO aa) j8),(4,ai (be Q)),(8,bA [42] (jO aF) j8)] [] [(130,.bool (!ab))]<|aX (!ab) a
     exact bn [(3,bA [42] (jO aa) j8),(4,ai (be Q))] [] [(130,.bool false)]<|aX false a
    rintro I a;rw[aW]at a;rcases aV a with⟨R,a⟩|⟨R,a⟩
    .refine aT R ?_;obtain⟨Z,a4,a⟩:=aB a;exact c6 [(4,e9 210 (ap af (bytes:=8) (by decide) a4))] [13,14,16,130] [(13,.own 210),(14,.bool true)] [42,148] [(210,.slice 3 1 (ag af Z) 0 false)]<|Exists.intro (Z,true) (And.intro a (dJ [.eC 210 42] []))
    exact aS R<|A.skip<|aX (n,k) a
   rintro⟨C,x⟩ a;rw[aU]at a;exact bn [(0,ai (cK U cu))] [116] [(116,u ((f+1:Nat):Int))]<|aX (C,x) a
  rintro f ⟨n,k⟩ bL bP a;rw[b1]at a;exact ak [] [] [(117,.d ((f:Int)<t.Links.length))]<|A.seq<|aS (cT bP)<|A.exit<|aX (n,k) a
 refine aS P<|A.exit<|A.seq<|bD [(2,ai (bu bl t.Links))] [1,14,112] [(138,aD bl t.Links),(139,u t.Links.length),(140,u 0)] [23] []<|A.block<|auX 138 rfl λcy=>?_
 obtain⟨cd,ce,cn,cp,a⟩:=cZ a;refine auV (l:=t.Links) (cD:=0) (B:=cd) (K:=ce) a (λm=>λ()=>[(13,.own 42),(138,aD bl t.Links),(139,u t.Links.length),(140,u m)]) (λm=>λ()=>[(42,.slice 3 1 (ag af z) 0 false)]) ?_ ?_ ?_
 .exact cq
 .rintro m bc cX ⟨⟩ ci V a;rw[cn]at a;refine ak [] [] [(141,.d ((m:Int)<t.Links.length))]<|A.seq<|aT (cU V)<|A.skip<|A.seq<|A.block<|bD [(0,bh (ix bl (cf V))),(2,.al 255)] [141] [(18,.ptr 255 0)] [] [(255,.cells 84 (ec bc))] ?_
  obtain⟨aE,a5,a⟩:=aB a;refine bD [(3,bA [42] (jO a5) j8)] [18] [(148,.bool (!aE))] [255] [] ?_;rcases aV a with⟨T,a⟩|⟨T,a⟩
  .refine aT T<|aG [] [(2,u 10)] [] ?_
   cases a;exact A.ret bk
  exact aS T<|A.skip<|bn [(0,ai (cK V cy))] [140,148] [(140,u ((m+1:Nat):Int))]<|aX () a
 rintro m ⟨⟩ ci cj a;rw[cp]at a;refine ak [] [] [(141,.d ((m:Int)<t.Links.length))]<|A.seq<|aS (cT cj)<|A.exit<|aG [] [(2,u 0)] [] ?_
 cases a;exact A.ret bk
def R5{r:(bH)}(a:sD t=some r):bY prog 82 [] [.agg (c8 t)] (aD af r):=by
 refine bT func82 rfl rfl ?_;unfold sD at a;refine aG [(0,.al 160)] [(1,.ptr 160 0)] [(160,.cells 36 (c8 t))]<|A.seq ?_
 obtain⟨h,q,a⟩:=aB a;refine ak [(1,a1 (G3 q) Gy)] [] [(8,.bool (!decide (h=0)))] ?_;rcases aV a with⟨e,a⟩|⟨e,a⟩
 .refine aT e<|aG [] [(2,.bC)] [] ?_
  cases a;exact A.ret bk
 refine aS e<|A.skip<|ak [] [8] [(3,.aL true (ag af ([t.cH]:bH)))]<|A.seq<|bD [(2,ai (bu bl t.Links))] [1] [(13,aD bl t.Links),(14,u t.Links.length),(15,u 0)] [160] []<|A.block<|auX 13 rfl λo=>?_
 obtain⟨k,m,i,j,a⟩:=cZ a;refine auV (l:=t.Links) (cD:=0) (B:=k) (K:=m) a (λb=>λc=>[(3,aD af c),(13,aD bl t.Links),(14,u t.Links.length),(15,u b)]) (λb=>λc=>[]) ?_ ?_ ?_
 .exact dJ [] [3]
 .rintro b p s c n d a;rw[i]at a;refine ak [] [] [(16,.d ((b:Int)<t.Links.length))]<|A.seq<|aT (cU d)<|A.skip<|A.seq<|A.block<|bD [(0,bh (ix bl (cf d))),(2,.al 257)] [16] [(5,.ptr 257 0)] [] [(257,.cells 84 (ec p))] ?_
  obtain⟨f,g,a⟩:=aB a;exact c6 [(3,a1 (G2 g) Gs)] [3,5] [(3,aD af f)] [257] []<|bn [(0,ai (cK d o))] [15] [(15,u ((b+1:Nat):Int))]<|Exists.intro f (And.intro a (dJ [] [3]))
 rintro b c n ch a;rw[j]at a;refine ak [] [] [(16,.d ((b:Int)<t.Links.length))]<|A.seq<|aS (cT ch)<|A.exit<|aG [] [(2,aD af c)] [] ?_
 cases a;exact A.ret bk
def sg{l:bH}(a:ot l=some r):bY prog 81 [] [aD af l] (.bool r):=by
 refine bT func81 rfl rfl ?_;unfold ot at a;refine aG [] [(0,aD af l)] []<|A.seq<|ak [] [] [(3,u 1)]<|A.block<|auX 0 rfl λj=>?_
 obtain⟨g,h,e,f,a⟩:=cZ a;refine auV (l:=l) (cD:=1) (B:=g) (K:=h) a (λb=>λ()=>[(0,aD af l),(3,u b)]) (λb=>λ()=>[]) ?_ ?_ ?_
 .exact cq
 .rintro b m o ⟨⟩ i c a;rw[e]at a;refine A.seq<|ak [(2,ai (bu af l))] [] [(7,.d ((b:Int)<l.length))] ?_
  refine aT (cU c)<|A.skip<|A.seq<|A.block ?_
  obtain⟨k,n,a⟩:=aB a;refine ak [(3,bh (ix af n)),(7,bh (ix af (cf c)))] [7] [(19,.d (m<=k))] ?_;rcases aV a with⟨d,a⟩|⟨d,a⟩
  .refine aT d<|aG [] [(2,.bool false)] [] ?_
   cases a;exact A.ret bk
  exact aS d<|A.skip<|bn [(1,ai (cK c j))] [3,19] [(3,u ((b+1:Nat):Int))]<|aX () a
 rintro b ⟨⟩ i ch a;rw[f]at a;refine A.seq<|ak [(2,ai (bu af l))] [] [(7,.d ((b:Int)<l.length))] ?_
 refine aS (cT ch)<|A.exit<|aG [] [(2,.bool true)] [] ?_
 cases a;exact A.ret bk
def G5{a:b0}{b:b0}(c:sw a b=some r):bY prog 30 [] [.agg (c8 a),.agg (c8 b)] (.bool r):=by
 refine bT func30 rfl rfl ?_;unfold sw at c;refine aG [(0,.al 103),(1,.al 104)] [(2,.ptr 103 0),(3,.ptr 104 0)] [(103,.cells 36 (c8 a)),(104,.cells 36 (c8 b))]<|A.seq<|au4 [(2,.ptr 103 0),(3,.ptr 104 0),(19,.bool ((!decide (a.cH=b.cH))||(!decide ((a.Links.length:Int)=(b.Links.length:Int)))))] [(103,.cells 36 (c8 a)),(104,.cells 36 (c8 b))] (λk=>?_) ?_
 .rcases fl (!decide (a.cH=b.cH))with e|e
  .exact aG [(5,ai (be e)),(13,ai (k4 (q:=!decide ((a.Links.length:Int)=(b.Links.length:Int))) e))] _ _ k
  exact aG [(5,ai (be e)),(8,ai (bu bl a.Links)),(11,ai (bu bl b.Links)),(13,ai (iQ (q:=!decide ((a.Links.length:Int)=(b.Links.length:Int))) e))] _ _ k
 rcases aV c with⟨h,c⟩|⟨h,c⟩
 .refine aT h<|aG [] [(4,.bool false)] [] ?_
  cases c;exact A.ret bk
 refine aS h<|A.skip<|A.seq<|ak [(2,ai (bu bl a.Links))] [19] [(22,u a.Links.length),(23,u 0)]<|A.block<|ave 2 1 rfl rfl rfl λt=>?_
 obtain⟨o,p,m,n,c⟩:=cZ c;refine auV (l:=a.Links) (cD:=0) (B:=o) (K:=p) c (λd=>λ()=>[(2,.ptr 103 0),(3,.ptr 104 0),(22,u a.Links.length),(23,u d)]) (λd=>λ()=>[(103,.cells 36 (c8 a)),(104,.cells 36 (c8 b))]) ?_ ?_ ?_
 .exact cq
 .rintro d j z ⟨⟩ s f c;rw[m]at c;refine ak [] [] [(24,.d ((d:Int)<a.Links.length))]<|A.seq<|aT (cU f)<|A.skip<|A.seq<|A.block<|ak [] [24] [(5,u d)] ?_
  obtain⟨i,v,c⟩:=aB c;refine ak [(3,bh (ix bl (cf f))),(8,bh (ix bl v)),(10,.td true 84 (.agg (ec j)) (.agg (ec i)) (!(gH j i)) (λx y w=>JI x y _ _ _ _ w))] [5] [(36,.bool (!(gH j i)))] ?_;rcases aV c with⟨g,c⟩|⟨g,c⟩
  .refine aT g<|aG [] [(4,.bool false)] [] ?_
   cases c;exact A.ret bk
  exact aS g<|A.skip<|bn [(0,ai (cK f t))] [23,36] [(23,u ((d+1:Nat):Int))]<|aX () c
 rintro d ⟨⟩ s ch c;rw[n]at c;refine ak [] [] [(24,.d ((d:Int)<a.Links.length))]<|A.seq<|aS (cT ch)<|A.exit<|aG [] [(4,.bool true)] [] ?_
 cases c;exact A.ret bk
variable {r:aK×bR}{t:bR}
def HI{aW:Int}(b:sA t aW=some r):cI prog 13 [(1,.cells 103 (dj t))] [.ptr 1 0,u aW] (λa bl=>a=.agg [aD cp r.1.aP,.own 205]/\bl=[(1,.cells 103 (dj r.2)),(205,.slice 62 5 (ag cC r.1.Links) 0 false)]):=by
 refine bT func13 rfl rfl ?_;unfold sA at b;refine aG [(0,.al 20)] [(0,.ptr 1 0),(1,u aW),(4,.ptr 20 0)] [(1,.cells 103 (dj t)),(20,.c 28 [.bC,.bC])] ?_;obtain⟨c,dG,b⟩:=aB b;refine bD [(2,cS [] (pZ dG) pL)] [1] [(5,u c.1)] [1] [(1,.cells 103 (dj c.2))]<|bD [(0,.al 21)] [] [(6,.ptr 21 0)] [] [(21,.c 28 [.bC,.bC])]<|ak [] [] [(7,u 0)]<|A.seq<|ak [] [] [(8,u 0)]<|A.block ?_
 obtain⟨cX,b⟩:=gC b;obtain⟨bu,bv,br,bs,b⟩:=kV b;refine avj (hi:=c.1) (B:=bu) (K:=bv) b rfl (λs=>λ(E,g,w,z)=>[(0,.ptr 1 0),(4,.ptr 20 0),(5,u c.1),(6,.ptr 21 0),(7,u E),(8,u s)]) (λs=>λ(E,g,w,z)=>[(1,.c 103 [aD af w,u z]),(20,.c 28 [.bC,.bC]),(21,.c 28 [.own 22,.bC]),(22,.slice 31 2 (ag cp g) 0 false)]) ?_ ?_ ?_
 .exact dJ [.ac 21 22 31 2 0] []
 .rintro s dK ⟨E,g,w,z⟩ bx aZ b;rw[br]at b;refine A.seq<|ak [] [] [(24,.d ((s:Int)<c.1))] ?_
  refine au3 rfl (decide_eq_true aZ)<|A.skip<|A.seq<|A.block ?_
  obtain⟨G,bi,b⟩:=aB b;refine bD [(3,cS [] (m3 bi) n0)] [7,24] [(7,u (an (E+G.1)))] [1] [(1,.cells 103 (dj G.2))] ?_;obtain⟨a1,bk,b⟩:=aB b;exact c6 [(5,e9 163 (ap cp (bytes:=16) (by decide) bk))] [] [] [21,22] [(21,.c 28 [.own 163,.bC]),(163,.slice 31 2 (ag cp a1) 0 false)]<|bn [(1,ai (lg (by omega) aZ (of_decide_eq_true cX)))] [8] [(8,u (s+1:Int))]<|Exists.intro (an (E+G.1),a1,G.2.L,G.2.At) (And.intro b (dJ [.eC 163 22] []))
 rintro s ⟨E,g,w,z⟩ bx ch b;rw[bs]at b;refine A.seq<|ak [] [] [(24,.d ((s:Int)<c.1))] ?_
 refine au1 rfl (lG ch)<|A.exit ?_
 obtain⟨a0,b⟩:=gC b;refine bD [(1,AP 13040 c.1 Nz NA a0 (by decide))] [7,8,24] [(9,.own 13040)] [] [(13040,.slice 106 1 (List.replicate c.1.toNat [.bC]) 0 false)]<|auZ ((avO (d:=13040) (e:=450013040) 4 1 eO.enc (Ab a0) rfl rfl rfl rfl rfl))<|A.seq<|aG [(1,kz 4 1 eO.enc (List.replicate c.1.toNat []:fE) o7)] [(0,.ptr 1 0),(4,.ptr 20 0),(5,u c.1),(6,.ptr 21 0),(9,.own 13040),(42,u ((List.replicate c.1.toNat []:fE).length:Int)),(43,u 0)] [(1,.c 103 [aD af w,u z]),(20,.c 28 [.bC,.bC]),(21,.c 28 [.own 22,.bC]),(22,.slice 31 2 (ag cp g) 0 false),(13040,.cF 106 450013040 c.1.toNat none),(450013040,.bp (encS 4 1 eO.enc (List.replicate c.1.toNat []:fE)))]<|A.block ?_
 obtain⟨c0,b⟩:=gC b;obtain⟨bV,cb,bW,bY,b⟩:=kV b;refine avj (hi:=((List.replicate c.1.toNat []:fE).length:Int)) (B:=bV) (K:=cb) b rfl (λk=>λy=>[(0,.ptr 1 0),(4,.ptr 20 0),(5,u c.1),(6,.ptr 21 0),(9,.own 13040),(42,u ((List.replicate c.1.toNat []:fE).length:Int)),(43,u k)]) (λk=>λy=>[(1,.c 103 [aD af w,u z]),(20,.c 28 [.bC,.bC]),(21,.c 28 [.own 22,.bC]),(22,.slice 31 2 (ag cp g) 0 false),(13040,.cF 106 450013040 c.1.toNat none),(450013040,.bp (encS 4 1 eO.enc y))]) ?_ ?_ ?_
 .exact cq
 .rintro k dM y ce a3 b;rw[bW]at b;refine ak [] [] [(44,.d ((k:Int)<((List.replicate c.1.toNat []:fE).length:Int)))]<|A.seq<|au3 rfl (decide_eq_true a3)<|A.skip<|A.seq<|A.block<|ak [] [44] [(10,u k)] ?_
  obtain⟨bj,b⟩:=gC b;obtain⟨dO,a4,b⟩:=aB b;exact c6 [(3,ou (a:=.bool false) 13049 false eO.enc c.1 NB NC rfl (λdI=>by simp[aN]) bj (by decide)),(4,hp 4 1 eO.enc o7 a4),(5,AQ 4 1 165 eO.enc (List.replicate (c.1).toNat false) uX a4)] [10] [] [13040,450013040] [(13040,.cF 106 165 c.1.toNat none),(165,.bp (encS 4 1 eO.enc (List.set y (k:Int).toNat (List.replicate (c.1).toNat false))))]<|bn [(0,ai (lg (by omega) a3 (of_decide_eq_true c0)))] [43] [(43,u (k+1:Int))]<|Exists.intro (List.set y (k:Int).toNat (List.replicate (c.1).toNat false)) (And.intro b (dJ [.rn 165 450013040] []))
 rintro k y ce cd b;rw[bY]at b;refine ak [] [] [(44,.d ((k:Int)<((List.replicate c.1.toNat []:fE).length:Int)))]<|A.seq<|au1 rfl (lG cd)<|A.exit<|A.seq<|ak [] [42,43,44] [(11,u 1)]<|A.block ?_
 obtain⟨dC,b⟩:=gC b;obtain⟨cz,cD,cG,cJ,b⟩:=kV b;refine avj (hi:=c.1) (B:=cz) (K:=cD) b rfl (λl=>λ(O,Q,o)=>[(0,.ptr 1 0),(4,.ptr 20 0),(5,u c.1),(6,.ptr 21 0),(9,.own 13040),(11,u l)]) (λl=>λ(O,Q,o)=>[(1,.c 103 [aD af O,u Q]),(20,.c 28 [.bC,.bC]),(21,.c 28 [.own 22,.bC]),(22,.slice 31 2 (ag cp g) 0 false),(13040,.cF 106 450013040 c.1.toNat none),(450013040,.bp (encS 4 1 eO.enc o))]) ?_ ?_ ?_
 .exact cq
 .rintro l dS ⟨O,Q,o⟩ ci a8 b;rw[cG]at b;refine A.seq<|ak [] [] [(54,.d ((l:Int)<c.1))] ?_
  refine au3 rfl (decide_eq_true a8)<|A.skip ?_
  obtain⟨bF,bL,b⟩:=dx b;refine A.J (J:=bF) (r:=r) (λ(R,U,P)=>[(0,.ptr 1 0),(4,.ptr 20 0),(5,u c.1),(6,.ptr 21 0),(9,.own 13040),(11,u l)]) (λ(R,U,P)=>[(1,.c 103 [aD af U,u P]),(20,.c 28 [.bC,.bC]),(21,.c 28 [.own 22,.bC]),(22,.slice 31 2 (ag cp g) 0 false),(13040,.cF 106 450013040 c.1.toNat none),(450013040,.bp (encS 4 1 eO.enc R))]) ?_ ?_
  .refine A.block ?_;obtain⟨N,bA,b⟩:=aB b;refine bD [(1,cS [] (hT bA) h8)] [54] [(59,.d (N.1<11))] [1] [(1,.cells 103 (dj N.2))] ?_;rcases aV b with⟨ar,b⟩|⟨ar,b⟩
   .refine aT ar ?_;obtain⟨x,b4,b⟩:=aB b;obtain⟨dP,a7,b⟩:=aB b;obtain⟨dY,aC,b⟩:=aB b;obtain⟨ax,cu,b⟩:=aB b;refine avw (A.R aY [] [(3,cS [] (hT b4) h8),(4,hp 4 1 eO.enc o7 a7),(5,AO 4 1 530013003 530013002 eO.enc uX a7),(7,bh (ix eO aC)),(8,hq 530013002 (st eO (off:=0) (ca:=[.bool true]) aC cu rfl) (hY aC).1.1)] [(0,.ptr 1 0),(4,.ptr 20 0),(5,u c.1),(6,.ptr 21 0),(9,.own 13040),(11,u l)] [(1,.cells 103 (dj x.2)),(20,.c 28 [.bC,.bC]),(21,.c 28 [.own 22,.bC]),(22,.slice 31 2 (ag cp g) 0 false),(13040,.cF 106 530013003 c.1.toNat (some (some x.1.toNat,530013002))),(530013003,.bp (encS 4 1 eO.enc (List.set o x.1.toNat []))),(530013002,.slice 4 1 (ag eO ax) 0 false)] (by kernel_rfl) ?_);refine⟨_,_,(avL (d:=13040) (e:=530013003) (e2:=530013004) (t:=530013002) o eO.enc ax rfl rfl rfl rfl rfl rfl rfl),?_⟩;exact Exists.intro ((List.set o x.1.toNat ax),x.2.L,x.2.At) (And.intro b (dJ [.rn 530013004 450013040] []))
   exact aS ar<|A.skip<|aX (o,N.2.L,N.2.At) b
  rintro⟨R,U,P⟩ b;rw[bL]at b;exact bn [(1,ai (lg (by omega) a8 (of_decide_eq_true dC)))] [11] [(11,u (l+1:Int))]<|aX (U,P,R) b
 rintro l ⟨O,Q,o⟩ ci b1 b;rw[cJ]at b;refine A.seq<|ak [] [] [(54,.d ((l:Int)<c.1))] ?_
 refine au1 rfl (lG b1)<|A.exit<|A.seq ?_
 obtain⟨a5,cy,b⟩:=aB b;refine bD [(3,cS [] (hT cy) h8)] [11,54] [(12,u a5.1)] [1] [(1,.cells 103 (dj a5.2))]<|A.block ?_
 obtain⟨dd,ei,da,b⟩:=fQ b;refine au6 (F:=dd) b (λ(n,aF,aM,f)=>[(0,.ptr 1 0),(4,.ptr 20 0),(5,u c.1),(6,.ptr 21 0),(9,.own 13040),(12,u n)]) (λ(n,aF,aM,f)=>[(1,.c 103 [aD af aF,u aM]),(20,.c 28 [.bC,.bC]),(21,.c 28 [.own 22,.bC]),(22,.slice 31 2 (ag cp g) 0 false),(13040,.cF 106 450013040 c.1.toNat none),(450013040,.bp (encS 4 1 eO.enc f))]) ?_ ?_
 .exact cq
 rintro eb ⟨n,aF,aM,f⟩ b;rw[da]at b;refine A.seq<|ak [] [] [(73,.d (0<n))] ?_
 rcases aV b with⟨aq,b⟩|⟨aq,b⟩
 .refine aT aq<|A.skip ?_
  obtain⟨bE,bP,b⟩:=dx b;refine A.J (J:=bE) (r:=r) (λ(W,X,Y)=>[(0,.ptr 1 0),(4,.ptr 20 0),(5,u c.1),(6,.ptr 21 0),(9,.own 13040),(12,u n)]) (λ(W,X,Y)=>[(1,.c 103 [aD af X,u Y]),(20,.c 28 [.bC,.bC]),(21,.c 28 [.own 22,.bC]),(22,.slice 31 2 (ag cp g) 0 false),(13040,.cF 106 450013040 c.1.toNat none),(450013040,.bp (encS 4 1 eO.enc W))]) ?_ ?_
  .refine A.block ?_;obtain⟨m,cf,b⟩:=aB b;obtain⟨i,cP,b⟩:=aB b;refine bD [(2,cS [] (hT cf) h8),(5,cS [] (hT cP) h8)] [73] [(13,u m.1),(14,u i.1)] [1] [(1,.cells 103 (dj i.2))]<|ak [] [] [(84,.bool (!decide (m.1=i.1)))] ?_
   rcases aV b with⟨ao,b⟩|⟨ao,b⟩
   .refine aT ao ?_;obtain⟨dZ,ba,b⟩:=aB b;obtain⟨ea,aI,b⟩:=aB b;obtain⟨aA,cT,b⟩:=aB b;refine avw (A.R aY [] [(4,hp 4 1 eO.enc o7 ba),(5,AO 4 1 530013006 530013005 eO.enc uX ba),(9,bh (ix eO aI)),(10,hq 530013005 (st eO (off:=0) (ca:=[.bool true]) aI cT rfl) (hY aI).1.1)] [(0,.ptr 1 0),(4,.ptr 20 0),(5,u c.1),(6,.ptr 21 0),(9,.own 13040),(12,u n)] [(1,.cells 103 (dj i.2)),(20,.c 28 [.bC,.bC]),(21,.c 28 [.own 22,.bC]),(22,.slice 31 2 (ag cp g) 0 false),(13040,.cF 106 530013006 c.1.toNat (some (some (if i.1<m.1 then i.1 else m.1).toNat,530013005))),(530013006,.bp (encS 4 1 eO.enc (List.set f (if i.1<m.1 then i.1 else m.1).toNat []))),(530013005,.slice 4 1 (ag eO aA) 0 false)] (by kernel_rfl) ?_);refine⟨_,_,(avL (d:=13040) (e:=530013006) (e2:=530013007) (t:=530013005) f eO.enc aA rfl rfl rfl rfl rfl rfl rfl),?_⟩;exact Exists.intro ((List.set f (if i.1<m.1 then i.1 else m.1).toNat aA),i.2.L,i.2.At) (And.intro b (dJ [.rn 530013007 450013040] []))
   exact aS ao<|A.skip<|aX (f,i.2.L,i.2.At) b
  rintro⟨W,X,Y⟩ b;rw[bP]at b;exact bn [] [12] [(12,u (an (n-1)))]<|aX (an (n-1),X,Y,W) b
 refine aS aq<|A.exit ?_
 obtain⟨p,cU,b⟩:=aB b;refine bD [(1,cS [] (hT cU) h8)] [5,12,73] [(15,.d (p.1=0))] [1] [(1,.cells 103 (dj p.2))]<|A.seq<|ak [(1,kz 4 1 eO.enc f o7)] [] [(99,u f.length),(100,u 0)]<|A.block ?_
 obtain⟨dD,b⟩:=gC b;obtain⟨dq,dp,dy,dA,b⟩:=kV b;refine avj (hi:=(f.length:Int)) (B:=dq) (K:=dp) b rfl (λh=>λ(M,I,L)=>[(0,.ptr 1 0),(4,.ptr 20 0),(6,.ptr 21 0),(9,.own 13040),(15,.d (p.1=0)),(99,u f.length),(100,u h)]) (λh=>λ(M,I,L)=>[(1,.c 103 [aD af I,u L]),(20,.c 28 [.bC,.bC]),(21,.c 28 [.own 22,.own 51]),(22,.slice 31 2 (ag cp g) 0 false),(13040,.cF 106 450013040 c.1.toNat none),(450013040,.bp (encS 4 1 eO.enc f)),(51,.slice 62 5 (ag cC M) 0 false)]) ?_ ?_ ?_
 .exact dJ [.ac 21 51 62 5 1] []
 .rintro h ec ⟨M,I,L⟩ dt bg b;rw[dy]at b;refine ak [] [] [(101,.d ((h:Int)<f.length))]<|A.seq<|au3 rfl (decide_eq_true bg)<|A.skip<|A.seq<|A.block<|ak [] [101] [(16,u h)]<|ak [(1,kz 4 1 eO.enc f o7)] [] [(104,u f.length),(105,u 0)]<|A.block ?_
  obtain⟨dE,b⟩:=gC b;obtain⟨dc,de,c8,db,b⟩:=kV b;refine avj (hi:=(f.length:Int)) (B:=dc) (K:=de) b rfl (λj=>λ(q,C,D)=>[(0,.ptr 1 0),(4,.ptr 20 0),(6,.ptr 21 0),(9,.own 13040),(15,.d (p.1=0)),(16,u h),(99,u f.length),(100,u h),(104,u f.length),(105,u j)]) (λj=>λ(q,C,D)=>[(1,.c 103 [aD af C,u D]),(20,.c 28 [.bC,.bC]),(21,.c 28 [.own 22,.own 51]),(22,.slice 31 2 (ag cp g) 0 false),(13040,.cF 106 450013040 c.1.toNat none),(450013040,.bp (encS 4 1 eO.enc f)),(51,.slice 62 5 (ag cC q) 0 false)]) ?_ ?_ ?_
  .exact cq
  .rintro j ed ⟨q,C,D⟩ c3 bf b;rw[c8]at b;refine ak [] [] [(106,.d ((j:Int)<f.length))]<|A.seq<|au3 rfl (decide_eq_true bf)<|A.skip ?_
   obtain⟨bJ,cj,b⟩:=dx b;refine A.J (J:=bJ) (r:=r) (λ(Z,aa,ab)=>[(0,.ptr 1 0),(4,.ptr 20 0),(6,.ptr 21 0),(9,.own 13040),(15,.d (p.1=0)),(16,u h),(99,u f.length),(100,u h),(104,u f.length),(105,u j)]) (λ(Z,aa,ab)=>[(1,.c 103 [aD af Z,u aa]),(20,.c 28 [.bC,.bC]),(21,.c 28 [.own 22,.own 51]),(22,.slice 31 2 (ag cp g) 0 false),(13040,.cF 106 450013040 c.1.toNat none),(450013040,.bp (encS 4 1 eO.enc f)),(51,.slice 62 5 (ag cC ab) 0 false)]) ?_ ?_
   .refine A.block<|ak [] [106] [(17,u j)] ?_
    refine A.seq ?_;obtain⟨cM,aE,b⟩:=aB b;obtain⟨cn,a9,b⟩:=aB b;refine bD [(2,hp 4 1 eO.enc o7 aE),(3,AO 4 1 530013009 530013008 eO.enc uX aE),(5,bh (ix eO a9)),(6,dX 530013008 0 (ix eO a9))] [] [(115,.bool (!cn))] [13040,450013040] [(13040,.cF 106 530013009 c.1.toNat (some (some (h:Int).toNat,530013008))),(530013009,.bp (encS 4 1 eO.enc (List.set f (h:Int).toNat []))),(530013008,.slice 4 1 (ag eO cM) 0 false)]<|auZ ((awk (d:=13040) (e:=530013009) (e2:=530013010) (t:=530013008) f eO.enc aE rfl rfl rfl rfl rfl rfl rfl)) ?_
    rcases aV b with⟨az,b⟩|⟨az,b⟩
    .exact aT az<|A.exit<|Exists.intro (C,D,q) (And.intro b (dJ [.rn 530013010 450013040] []))
    refine aS az<|A.skip ?_
    obtain⟨S,bc,b⟩:=aB b;obtain⟨T,be,b⟩:=aB b;obtain⟨v,cN,b⟩:=aB b;refine aG [(3,bh (ix cp bc)),(5,dX 22 0 (ix cp bc)),(9,bh (ix cp be)),(11,dX 22 0 (ix cp be)),(14,cS [] (m3 cN) n0),(16,.al 127)] [(0,.ptr 1 0),(4,.ptr 20 0),(6,.ptr 21 0),(9,.own 13040),(15,.d (p.1=0)),(16,u h),(99,u f.length),(100,u h),(104,u f.length),(105,u j),(18,.ptr 127 0)] [(1,.cells 103 (dj v.2)),(20,.c 28 [.bC,.bC]),(21,.c 28 [.own 22,.own 51]),(22,.slice 31 2 (ag cp g) 0 false),(13040,.cF 106 530013010 c.1.toNat none),(530013010,.bp (encS 4 1 eO.enc f)),(51,.slice 62 5 (ag cC q) 0 false),(127,.c 62 [u S.b7,u T.b7,u 1,u 1,u v.1])] ?_;obtain⟨cK,cV,b⟩:=dx b;refine A.J (J:=cK) (r:=r) (λ(ae,am,aR,aU)=>[(0,.ptr 1 0),(4,.ptr 20 0),(6,.ptr 21 0),(9,.own 13040),(15,.d (p.1=0)),(16,u h),(18,.ptr 127 0),(99,u f.length),(100,u h),(104,u f.length),(105,u j)]) (λ(ae,am,aR,aU)=>[(1,.c 103 [aD af ae,u am]),(20,.c 28 [.bC,.bC]),(21,.c 28 [.own 22,.own 51]),(22,.slice 31 2 (ag cp g) 0 false),(13040,.cF 106 530013010 c.1.toNat none),(530013010,.bp (encS 4 1 eO.enc f)),(51,.slice 62 5 (ag cC q) 0 false),(127,.c 62 [u S.b7,u T.b7,u aR,u aU,u v.1])]) ?_ ?_
    .refine ak [] [] [(133,.bool (!(decide (p.1=0))))] ?_;rcases aV b with⟨aw,b⟩|⟨aw,b⟩
     .refine aT aw ?_;obtain⟨eg,cY,b⟩:=aB b;obtain⟨V,cZ,b⟩:=aB b;refine bD [(2,cS [] (pZ cY) pL),(4,cS [] (m3 cZ) n0)] [133] [] [1,127] [(1,.cells 103 (dj V.2)),(127,.c 62 [u S.b7,u T.b7,u V.1,u 1,u v.1])] ?_;obtain⟨eh,dh,b⟩:=aB b;obtain⟨H,dn,b⟩:=aB b;exact c6 [(6,cS [] (pZ dh) pL),(8,cS [] (m3 dn) n0)] [] [] [1,127] [(1,.cells 103 (dj H.2)),(127,.c 62 [u S.b7,u T.b7,u V.1,u H.1,u v.1])]<|aX (H.2.L,H.2.At,V.1,H.1) b
     exact aS aw<|A.skip<|aX (v.2.L,v.2.At,(1:Int),(1:Int)) b
    rintro⟨ae,am,aR,aU⟩ b;rw[cV]at b;obtain⟨a6,dw,b⟩:=aB b;exact c6 [(4,e9 198 (ap cC (bytes:=40) (by decide) dw))] [18] [] [21,51,127] [(21,.c 28 [.own 22,.own 198]),(198,.slice 62 5 (ag cC a6) 0 false)]<|Exists.intro (ae,am,a6) (And.intro b (dJ [.eC 198 51,.rn 530013010 450013040] []))
   rintro⟨Z,aa,ab⟩ b;rw[cj]at b;exact bn [(0,ai (lg (by omega) bf (of_decide_eq_true dE)))] [105] [(105,u (j+1:Int))]<|aX (ab,Z,aa) b
  rintro j ⟨q,C,D⟩ c3 c7 b;rw[db]at b;exact ak [] [] [(106,.d ((j:Int)<f.length))]<|A.seq<|au1 rfl (lG c7)<|A.exit<|bn [(0,ai (lg (by omega) bg (of_decide_eq_true dD)))] [16,100,104,105,106] [(100,u (h+1:Int))]<|aX (q,C,D) b
 rintro h ⟨M,I,L⟩ dt dv b;rw[dA]at b;refine ak [] [] [(101,.d ((h:Int)<f.length))]<|A.seq<|au1 rfl (lG dv)<|A.exit<|auZ (avM (d:=13040) (e:=450013040) f eO.enc rfl rfl)<|aG [] [(4,.ptr 20 0)] [(1,.c 103 [aD af I,u L]),(20,.c 28 [.own 22,.own 51]),(22,.slice 31 2 (ag cp g) 0 false),(51,.slice 62 5 (ag cC M) 0 false)]<|A.ret ?_
 obtain rfl:=e0 b;exact auW aY [.bK [22],.eC 51 205] rfl (by kernel_rfl)
variable {p:aK}
def HX{r:Int×bR}(b:sS t p=some r):cI prog 51 [(1,.cells 103 (dj t))] [.ptr 1 0,.agg (aZ p)] (λa n=>a=u r.1/\n=[(1,.cells 103 (dj r.2))]):=by
 refine bT func51 rfl rfl ?_;unfold sS at b;refine aG [(0,.al 146)] [(0,.ptr 1 0),(3,.ptr 146 0)] [(1,.cells 103 (dj t)),(146,.cells 28 (aZ p))]<|A.seq ?_
 obtain⟨o,s,b⟩:=dx b;refine A.J (J:=o) (r:=r) (λ(h,f,d)=>[(0,.ptr 1 0),(3,.ptr 146 0),(13,.bool h)]) (λ(h,f,d)=>[(1,.c 103 [aD af f,u d]),(146,.cells 28 (aZ p))]) ?_ ?_
 .rcases aV b with⟨g,b⟩|⟨g,b⟩
  .exact bn [(2,ai (bu cp p.aP)),(4,ai (be g))] [] [(13,.bool true)]<|aX (true,t.L,t.At) b
  obtain⟨c,v,b⟩:=aB b;exact c6 [(2,ai (bu cp p.aP)),(4,ai (be g)),(6,cS [] (hT v) h8)] [] [(13,.d (c.1=39))] [1] [(1,.cells 103 (dj c.2))]<|aX (decide (c.1=39),c.2.L,c.2.At) b
 rintro⟨h,f,d⟩ b;rw[s]at b;rcases aV b with⟨e,b⟩|⟨e,b⟩
 .refine aT e ?_;obtain⟨i,j,b⟩:=aB b;refine aG [(2,cS [] (m3 j) n0)] [(4,u i.1)] [(1,.cells 103 (dj i.2))] ?_;cases b;exact A.ret bk
 refine aS e<|A.skip ?_
 obtain⟨l,m,b⟩:=aB b;obtain⟨q,k,b⟩:=aB b;refine aG [(5,ai (bu cp p.aP)),(6,cS [] (hT m) h8),(7,bh (ix cp k))] [(4,u q.b7)] [(1,.cells 103 (dj l.2))] ?_;cases b;exact A.ret bk
def Ie{n:Int}{r:(bH)×bR}(b:s7 t p n=some r):cI prog 15 [(1,.cells 103 (dj t))] [.ptr 1 0,.agg (aZ p),u n] (λa v=>a=aD af r.1/\v=[(1,.cells 103 (dj r.2))]):=by
 refine bT func15 rfl rfl ?_;unfold s7 at b;refine aG [(0,.al 118)] [(0,.ptr 1 0),(2,u n),(4,.ptr 118 0)] [(1,.cells 103 (dj t)),(118,.cells 28 (aZ p))]<|ak [] [] [(7,.bC)]<|A.seq ?_
 obtain⟨k,y,b⟩:=aB b;refine bD [(3,cS [] (hT y) h8)] [2] [(8,u k.1)] [1] [(1,.cells 103 (dj k.2))]<|A.block ?_
 obtain⟨w,C,x,b⟩:=fQ b;refine au6 (F:=w) b (λ(e,c,g,f)=>[(0,.ptr 1 0),(4,.ptr 118 0),(7,aD af e),(8,u c)]) (λ(e,c,g,f)=>[(1,.c 103 [aD af g,u f]),(118,.cells 28 (aZ p))]) ?_ ?_
 .exact dJ [] [7]
 rintro z ⟨e,c,g,f⟩ b;rw[x]at b;refine A.seq<|au4 [(0,.ptr 1 0),(4,.ptr 118 0),(7,aD af e),(8,u c),(20,.bool ((decide (0<c))&&(decide (0<(p.aP.length:Int)))))] [(1,.c 103 [aD af g,u f]),(118,.cells 28 (aZ p))] (λl=>?_) ?_
 .rcases fl (decide (0<c))with d|d
  .exact aG [(2,ai (be d)),(5,ai (bu cp p.aP)),(7,ai (gl (q:=decide (0<(p.aP.length:Int))) d))] _ _ l
  exact aG [(2,ai (be d)),(7,ai (gP (q:=decide (0<(p.aP.length:Int))) d))] _ _ l
 rcases aV b with⟨i,b⟩|⟨i,b⟩
 .refine aT i<|A.skip<|A.seq<|A.block ?_
  obtain⟨h,m,b⟩:=aB b;obtain⟨B,s,b⟩:=aB b;obtain⟨j,o,b⟩:=aB b;exact c6 [(6,ai (bu cp p.aP)),(7,cS [] (hT m) h8),(8,bh (ix cp s)),(11,a1 (G2 o) Gs)] [7,20] [(7,aD af j)] [1] [(1,.cells 103 (dj h.2))]<|bn [] [8] [(8,u (an (c-1)))]<|Exists.intro (j,an (c-1),h.2.L,h.2.At) (And.intro b (dJ [] [7]))
 refine aS i<|A.exit<|bD [] [0,4,7,8,20] [(6,aD af e)] [118] [] ?_
 cases b;exact A.ret bk
def Ik{l:lR}{b:aQ}{r:(lR)}(a:th l b=some r):bY prog 111 [] [aD bl l,.agg (ec b)] (aD bl r):=by
 refine bT func111 rfl rfl ?_;unfold th at a;refine aG [(0,.al 99)] [(0,aD bl l),(3,.ptr 99 0)] [(99,.cells 84 (ec b))]<|ak [] [] [(5,u 0)]<|A.seq<|A.block ?_
 obtain⟨t,B,v,a⟩:=fQ a;refine au6 (F:=t) a (λc=>[(0,aD bl l),(3,.ptr 99 0),(5,u c)]) (λc=>[(99,.cells 84 (ec b))]) ?_ ?_
 .exact cq
 rintro x c a;rw[v]at a;refine A.seq ?_;obtain⟨q,s,a⟩:=dx a;refine A.J (J:=q) (r:=r) (λh=>[(0,aD bl l),(3,.ptr 99 0),(5,u c),(40,.bool h)]) (λh=>[(99,.cells 84 (ec b))]) ?_ ?_
 .rcases aV a with⟨e,a⟩|⟨e,a⟩
  .obtain⟨k,d,a⟩:=aB a;rcases aV a with⟨f,a⟩|⟨f,a⟩
   .exact bn [(2,ai (bu bl l)),(4,ai (be e)),(7,bh (ix bl d)),(13,ai (be f))] [] [(40,.bool true)]<|aX true a
   rcases aV a with⟨g,a⟩|⟨g,a⟩
   .exact bn [(2,ai (bu bl l)),(4,ai (be e)),(7,bh (ix bl d)),(13,ai (be f)),(16,bh (ix bl d)),(22,ai (be g)),(25,bh (ix bl d))] [] [(40,.d (k.aJ<b.aJ))]<|aX (decide (k.aJ<b.aJ)) a
   exact bn [(2,ai (bu bl l)),(4,ai (be e)),(7,bh (ix bl d)),(13,ai (be f)),(16,bh (ix bl d)),(22,ai (be g))] [] [(40,.bool false)]<|aX false a
  exact bn [(2,ai (bu bl l)),(4,ai (be e))] [] [(40,.bool false)]<|aX false a
 rintro h a;rw[s]at a;rcases aV a with⟨i,a⟩|⟨i,a⟩
 .exact aT i<|A.skip<|A.block<|bn [] [5,40] [(5,u (an (c+1)))]<|aX (an (c+1)) a
 refine aS i<|A.exit ?_
 obtain⟨y,m,a⟩:=aB a;obtain⟨p,j,a⟩:=aB a;refine bD [(1,.al 111044),(4,eZ (vl bl m)),(5,e9 192 (ap bl (bytes:=16) (by decide) j))] [3,40] [(6,.own 192)] [99] [(192,.slice 84 2 (ag bl p) 0 false)] ?_;obtain⟨z,n,a⟩:=aB a;obtain⟨w,o,a⟩:=aB a;refine auT aY [.bK [192]] [(3,kT (sl bl n)),(5,Az 193 zS (ap bl (bytes:=16) (by decide) o) (Ay bl j (Nat.succ_pos _)))] [(4,.own 193)] [(193,.slice 84 2 (ag bl w) 0 false)] (by kernel_rfl)<|A.ret ?_
 obtain rfl:=e0 a;exact auW aY [.bK [193]] rfl (by kernel_rfl)
def Ig{root:Int}{r:b0×bR}(b:s8 t p root=some r):cI prog 53 [(1,.cells 103 (dj t))] [.ptr 1 0,.agg (aZ p),u root] (λa K=>a=.agg (c8 r.1)/\K=[(1,.cells 103 (dj r.2))]):=by
 refine bT func53 rfl rfl ?_;unfold s8 at b;refine aG [(0,.al 57),(1,.al 52)] [(0,.ptr 1 0),(2,u root),(4,.ptr 57 0),(6,.ptr 52 0)] [(1,.cells 103 (dj t)),(57,.cells 28 (aZ p)),(52,.c 36 [u 0,.bC])]<|bD [(2,.al 60)] [] [(7,.ptr 60 0)] [] [(60,.c 36 [u root,.bC])]<|bD [(1,.al 168)] [2] [(8,.own 168)] [] [(168,.slice 3 1 (ag af ([root]:bH)) 0 false)]<|A.seq ?_
 obtain⟨B,W,b⟩:=aB b;refine bD [(3,ai (bu cC p.Links)),(6,cS [] (hT W) h8)] [] [(9,u B.1)] [1] [(1,.cells 103 (dj B.2))]<|A.block ?_
 obtain⟨S,Z,T,b⟩:=fQ b;refine au6 (F:=S) b (λ(g,d,f,o,v)=>[(0,.ptr 1 0),(4,.ptr 57 0),(6,.ptr 52 0),(7,.ptr 60 0),(8,.own 71),(9,u d)]) (λ(g,d,f,o,v)=>[(1,.c 103 [aD af o,u v]),(57,.cells 28 (aZ p)),(52,.c 36 [u 0,.bC]),(60,.c 36 [u root,aD bl f]),(71,.slice 3 1 (ag af g) 0 false)]) ?_ ?_
 .exact dJ [.eC 168 71,.sc 60 [1,57,52,60,71]] []
 rintro X ⟨g,d,f,o,v⟩ b;rw[T]at b;refine A.seq<|ak [] [] [(24,.d (0<d))] ?_
 rcases aV b with⟨s,b⟩|⟨s,b⟩
 .refine aT s<|A.skip ?_
  obtain⟨N,Q,b⟩:=dx b;refine A.J (J:=N) (r:=r) (λ(m,h,i,k)=>[(0,.ptr 1 0),(4,.ptr 57 0),(6,.ptr 52 0),(7,.ptr 60 0),(8,.own 71),(9,u d)]) (λ(m,h,i,k)=>[(1,.c 103 [aD af h,u i]),(57,.cells 28 (aZ p)),(52,.c 36 [u 0,.bC]),(60,.c 36 [u root,aD bl k]),(71,.slice 3 1 (ag af m) 0 false)]) ?_ ?_
  .refine A.block ?_;obtain⟨e,E,b⟩:=aB b;obtain⟨c,I,b⟩:=aB b;refine bD [(5,ai (bu cC p.Links)),(6,cS [] (hT E) h8),(7,bh (ix cC I)),(9,.al 158)] [24] [(10,.ptr 158 0)] [1] [(1,.cells 103 (dj e.2)),(158,.cells 62 (de c))]<|bD [(5,.al 109)] [] [(11,.ptr 109 0)] [] [(109,.c 84 [u c.A,u c.B])] ?_
   obtain⟨M,R,b⟩:=dx b;refine A.J (J:=M) (r:=r) (λ(j,l)=>[(0,.ptr 1 0),(4,.ptr 57 0),(6,.ptr 52 0),(7,.ptr 60 0),(8,.own 71),(9,u d),(11,.ptr 109 0)]) (λ(j,l)=>[(1,.cells 103 (dj e.2)),(57,.cells 28 (aZ p)),(52,.c 36 [u 0,.bC]),(60,.c 36 [u root,aD bl f]),(71,.slice 3 1 (ag af g) 0 false),(109,.c 84 [u j,u l])]) ?_ ?_
   .obtain⟨H,G,b⟩:=aB b;refine ak [(3,bA [71] (jO G) j8)] [] [(44,.bool H)] ?_;rcases aV b with⟨q,b⟩|⟨q,b⟩
    .exact aT q<|c6 [] [10,44] [] [158,109] [(109,.c 84 [u c.B,u c.A])]<|aX (c.B,c.A) b
    exact aS q<|A.skip<|aX (c.A,c.B) b
   rintro⟨j,l⟩ b;rw[R]at b;obtain⟨P,V,b⟩:=dx b;refine A.J (J:=P) (r:=r) (λw=>[(0,.ptr 1 0),(4,.ptr 57 0),(6,.ptr 52 0),(7,.ptr 60 0),(8,.own 71),(9,u d),(11,.ptr 109 0),(60,.bool w)]) (λw=>[(1,.cells 103 (dj e.2)),(57,.cells 28 (aZ p)),(52,.c 36 [u 0,.bC]),(60,.c 36 [u root,aD bl f]),(71,.slice 3 1 (ag af g) 0 false),(109,.c 84 [u j,u l])]) ?_ ?_
   .obtain⟨Y,z,b⟩:=aB b;rcases aV b with⟨n,b⟩|⟨n,b⟩
    .obtain⟨D,O,b⟩:=aB b;exact bn [(3,bA [71] (jO z) j8),(4,ai (be n)),(8,bA [71] (jO O) j8)] [] [(60,.bool (!D))]<|aX (!D) b
    exact bn [(3,bA [71] (jO z) j8),(4,ai (be n))] [] [(60,.bool false)]<|aX false b
   rintro w b;rw[V]at b;rcases aV b with⟨x,b⟩|⟨x,b⟩
   .refine aT x ?_;obtain⟨y,L,b⟩:=aB b;refine bD [(4,e9 172 (ap af (bytes:=8) (by decide) L))] [8,60] [(8,.own 172)] [71] [(172,.slice 3 1 (ag af y) 0 false)] ?_;obtain⟨C,U,b⟩:=aB b;exact c6 [(3,a1 (Ik U) Pw)] [11] [] [60,109] [(60,.c 36 [u root,aD bl C])]<|Exists.intro (y,e.2.L,e.2.At,C) (And.intro b (dJ [.eC 172 71] []))
   exact aS x<|A.skip<|aX (g,e.2.L,e.2.At,f) b
  rintro⟨m,h,i,k⟩ b;rw[Q]at b;exact bn [] [9] [(9,u (an (d-1)))]<|aX (m,an (d-1),k,h,i) b
 refine aS s<|A.exit<|bD [] [0,4,7,8,9,24] [] [57,52,60,71] [(52,.c 36 [u root,aD bl f])] ?_
 cases b;exact A.ret bk
def RJ(b:r9 t p=some r):cI prog 52 [(1,.cells 103 (dj t))] [.ptr 1 0,.agg (aZ p)] (λa G=>a=.agg (aZ r.1)/\G=[(1,.cells 103 (dj r.2))]):=by
 refine bT func52 rfl rfl ?_;unfold r9 at b;refine aG [(0,.al 235),(1,.al 59)] [(0,.ptr 1 0),(3,.ptr 235 0),(4,.ptr 59 0)] [(1,.cells 103 (dj t)),(235,.cells 28 (aZ p)),(59,.c 28 [.bC,.bC])] ?_;obtain⟨e,P,b⟩:=aB b;obtain⟨d,C,b⟩:=aB b;refine bD [(0,.al 52006),(3,e9 76 (ap cp (bytes:=16) (by decide) P)),(4,.al 52010),(7,e9 70 (ap cC (bytes:=40) (by decide) C)),(9,.al 55)] [3] [(5,.ptr 55 0)] [235] [(55,.c 28 [.own 76,.own 70]),(76,.slice 31 2 (ag cp e) 0 false),(70,.slice 62 5 (ag cC d) 0 false)] ?_;obtain⟨I,L,b⟩:=dx b;refine A.J (J:=I) (r:=r) (λ(l,i,g,o)=>[(4,.ptr 59 0),(5,.ptr 55 0)]) (λ(l,i,g,o)=>[(1,.c 103 [aD af l,u i]),(59,.c 28 [.bC,.bC]),(55,.c 28 [aD cp g,.own 108]),(108,.slice 62 5 (ag cC o) 0 false)]) ?_ ?_
 .obtain⟨c,F,b⟩:=aB b;refine bD [(1,cS [] (hT F) h8)] [] [(16,u c.1)] [1] [(1,.cells 103 (dj c.2))]<|A.block<|ak [] [] [(25,.d (c.1=0))] ?_
  rcases aV b with⟨m,b⟩|⟨m,b⟩
  .refine aT m ?_;obtain⟨j,D,b⟩:=aB b;obtain⟨w,E,b⟩:=aB b;exact c6 [(4,cS [] (m3 D) n0),(7,e9 207 (ap cp (bytes:=16) (by decide) E))] [0,16,25] [] [1,55,76] [(1,.cells 103 (dj j.2)),(55,.c 28 [.own 207,.own 70]),(207,.slice 31 2 (ag cp w) 0 false)]<|Exists.intro (j.2.L,j.2.At,w,d) (And.intro b (dJ [.bK [207],.eC 70 108,.sc 55 [1,59,55,108]] []))
  refine aS m<|ak [] [25] [(36,.d (c.1=1))] ?_
  rcases aV b with⟨k,b⟩|⟨k,b⟩
  .refine aT k<|ak [(2,ai (bu cC d))] [16,36] [(41,.d (0<(d.length:Int)))] ?_
   rcases aV b with⟨h,b⟩|⟨h,b⟩
   .refine aT h ?_;obtain⟨Q,K,b⟩:=aB b;obtain⟨f,H,b⟩:=aB b;obtain⟨R,v,b⟩:=aB b;obtain⟨x,M,b⟩:=aB b;exact c6 [(5,ai (bu cC d)),(6,cS [] (hT K) h8),(9,cS [] (m3 H) n0),(10,bh (ix cC v)),(12,hq 70 (st cC (off:=2) (ca:=[u f.1]) v M rfl) (hY v).1.1)] [0,41] [] [1,70] [(1,.cells 103 (dj f.2)),(70,.slice 62 5 (ag cC x) 0 false)]<|Exists.intro (f.2.L,f.2.At,e,x) (And.intro b (dJ [.bK [76],.eC 70 108,.sc 55 [1,59,55,108]] []))
   exact aS h<|A.skip<|Exists.intro (c.2.L,c.2.At,e,d) (And.intro b (dJ [.bK [76],.eC 70 108,.sc 55 [1,59,55,108]] []))
  refine aS k<|ak [] [0,16,36] [(54,.d (c.1=2))] ?_
  rcases aV b with⟨q,b⟩|⟨q,b⟩
  .refine aT q<|ak [(2,ai (bu cC d))] [54] [(59,.d (0<(d.length:Int)))] ?_
   rcases aV b with⟨n,b⟩|⟨n,b⟩
   .refine aT n ?_;obtain⟨S,y,b⟩:=aB b;obtain⟨z,N,b⟩:=aB b;exact c6 [(4,bh (ix cC y)),(5,dX 70 0 (ix cC y)),(7,e9 208 (ap cC (bytes:=40) (by decide) N))] [59] [] [55,70] [(55,.c 28 [.own 76,.own 208]),(208,.slice 62 5 (ag cC z) 0 false)]<|Exists.intro (c.2.L,c.2.At,e,z) (And.intro b (dJ [.bK [76],.eC 208 108,.sc 55 [1,59,55,108]] []))
   exact aS n<|A.skip<|Exists.intro (c.2.L,c.2.At,e,d) (And.intro b (dJ [.bK [76],.eC 70 108,.sc 55 [1,59,55,108]] []))
  refine aS q<|ak [(2,ai (bu cp e))] [54] [(20,.d (0<(e.length:Int)))] ?_
  rcases aV b with⟨s,b⟩|⟨s,b⟩
  .refine aT s ?_;obtain⟨B,O,b⟩:=aB b;exact A.R aY [.bK [76]] [(2,eZ (vl cp O))] [(4,.ptr 59 0),(5,.ptr 55 0)] [(1,.cells 103 (dj c.2)),(59,.c 28 [.bC,.bC]),(55,.c 28 [aD cp B,.own 70]),(70,.slice 62 5 (ag cC d) 0 false)] (by kernel_rfl)<|Exists.intro (c.2.L,c.2.At,B,d) (And.intro b (dJ [.eC 70 108] []))
  exact aS s<|A.skip<|Exists.intro (c.2.L,c.2.At,e,d) (And.intro b (dJ [.bK [76],.eC 70 108,.sc 55 [1,59,55,108]] []))
 rintro⟨l,i,g,o⟩ b;rw[L]at b;refine bD [] [5] [] [59,55] [(59,.c 28 [aD cp g,.own 108])]<|A.ret ?_
 obtain rfl:=e0 b;exact auW aY [.bK [108]] rfl (by kernel_rfl)
def vS{r:Bool}(c:v2 p=some r):bY prog 35 [] [.agg (aZ p)] (.bool r):=by
 refine bT func35 rfl rfl ?_;unfold v2 at c;refine aG [(0,.al 233)] [(1,.ptr 233 0)] [(233,.cells 28 (aZ p))]<|au4 [(2,.bool ((decide ((p.aP.length:Int)<=(30:Int)))&&(decide ((p.Links.length:Int)<=(70:Int)))))] [] (λb=>?_) ?_
 .rcases fl (decide ((p.aP.length:Int)<=(30:Int)))with a|a
  .exact aG [(2,ai (bu cp p.aP)),(4,ai (be a)),(7,ai (bu cC p.Links)),(10,ai (gl (q:=decide ((p.Links.length:Int)<=(70:Int))) a))] _ _ b
  exact aG [(2,ai (bu cp p.aP)),(4,ai (be a)),(10,ai (gP (q:=decide ((p.Links.length:Int)<=(70:Int))) a))] _ _ b
 cases c;exact A.ret bk
def vY{n:Int}{r:Bool}(c:p5 n=some r):bY prog 142 [] [u n] (.bool r):=by
 refine bT func142 rfl rfl ?_;unfold p5 at c;refine aG [] [(0,u n)] []<|au4 [(2,.bool ((decide (1<=n))&&(decide (n<=99))))] [] (λb=>?_) ?_
 .rcases fl (decide (1<=n))with a|a
  .exact aG [(2,ai (be a)),(6,ai (gl (q:=decide (n<=99)) a))] _ _ b
  exact aG [(2,ai (be a)),(6,ai (gP (q:=decide (n<=99)) a))] _ _ b
 cases c;exact A.ret bk
variable {t:b0}
def RA{r:(List (Int×Bool))}(a:r6 t=some r):bY prog 143 [] [.agg (c8 t)] (.b8 (bg .i64 ew r)):=by
 refine bT func143 rfl rfl ?_;unfold r6 at a;refine aG [(0,.al 69)] [(1,.ptr 69 0)] [(69,.cells 36 (c8 t))]<|bD [(0,.al 68),(3,l5 (jq (k:=.i64) (enc:=ew) [] t.cH true rfl))] [] [(3,.cc 68)] [] [(68,.map 3 4 (bg .i64 ew (bc [] t.cH true)))]<|A.seq<|ak [] [] [(4,.bool true)]<|A.block ?_
 obtain⟨G,P,H,a⟩:=fQ a;refine au6 (F:=G) a (λ(i,n)=>[(1,.ptr 69 0),(3,.cc 68),(4,.bool i)]) (λ(i,n)=>[(69,.cells 36 (c8 t)),(68,.map 3 4 (bg .i64 ew n))]) ?_ ?_
 .exact cq
 rintro N ⟨i,n⟩ a;rw[H]at a;refine A.seq<|ak [] [] [(11,.bool i)] ?_
 rcases aV a with⟨o,a⟩|⟨o,a⟩
 .refine aT o<|A.skip<|A.block<|ak [] [4,11] [(4,.bool false)]<|ak [(2,ai (bu bl t.Links))] [] [(13,aD bl t.Links),(14,u t.Links.length),(15,u 0)]<|A.block<|auX 13 rfl λw=>?_
  obtain⟨z,I,C,D,a⟩:=cZ a;refine auV (l:=t.Links) (cD:=0) (B:=z) (K:=I) a (λd=>λ(e,b)=>[(1,.ptr 69 0),(3,.cc 68),(4,.bool e),(13,aD bl t.Links),(14,u t.Links.length),(15,u d)]) (λd=>λ(e,b)=>[(69,.cells 36 (c8 t)),(68,.map 3 4 (bg .i64 ew b))]) ?_ ?_ ?_
  .exact cq
  .rintro d c O ⟨e,b⟩ M p a;rw[C]at a;refine ak [] [] [(16,.d ((d:Int)<t.Links.length))]<|A.seq<|aT (cU p)<|A.skip ?_
   obtain⟨x,y,a⟩:=dx a;refine A.J (J:=x) (r:=r) (λ(j,h)=>[(1,.ptr 69 0),(3,.cc 68),(4,.bool j),(13,aD bl t.Links),(14,u t.Links.length),(15,u d)]) (λ(j,h)=>[(69,.cells 36 (c8 t)),(68,.map 3 4 (bg .i64 ew h))]) ?_ ?_
   .refine A.block<|bD [(0,bh (ix bl (cf p))),(2,.al 185)] [16] [(6,.ptr 185 0)] [] [(185,.cells 84 (ec c))] ?_
    refine au4 [(1,.ptr 69 0),(3,.cc 68),(4,.bool e),(13,aD bl t.Links),(14,u t.Links.length),(15,u d),(6,.ptr 185 0),(29,.bool (((ay b c.aO).getD false)&&(!((ay b c.aJ).getD false))))] [(69,.cells 36 (c8 t)),(68,.map 3 4 (bg .i64 ew b)),(185,.cells 84 (ec c))] (λv=>?_) ?_
    .rcases fl ((ay b c.aO).getD false)with f|f
     .exact aG [(3,l4 (lk (E:=4) (k:=.i64) (enc:=ew) b c.aO false (λg=>⟨_,zeroValue4 g,λs=>by simp[aN,bW,ew]⟩))),(4,ai (be f)),(8,l4 (lk (E:=4) (k:=.i64) (enc:=ew) b c.aJ false (λg=>⟨_,zeroValue4 g,λs=>by simp[aN,bW,ew]⟩))),(10,ai (gl (q:=!((ay b c.aJ).getD false)) f))] _ _ v
     exact aG [(3,l4 (lk (E:=4) (k:=.i64) (enc:=ew) b c.aO false (λg=>⟨_,zeroValue4 g,λs=>by simp[aN,bW,ew]⟩))),(4,ai (be f)),(10,ai (gP (q:=!((ay b c.aJ).getD false)) f))] _ _ v
    rcases aV a with⟨m,a⟩|⟨m,a⟩
    .exact aT m<|c6 [(3,l5 (jq (k:=.i64) (enc:=ew) b c.aJ true rfl))] [4,6,29] [(4,.bool true)] [68,185] [(68,.map 3 4 (bg .i64 ew (bc b c.aJ true)))]<|aX (true,bc b c.aJ true) a
    exact aS m<|A.skip<|aX (e,b) a
   rintro⟨j,h⟩ a;rw[y]at a;exact bn [(0,ai (cK p w))] [15] [(15,u ((d+1:Nat):Int))]<|aX (j,h) a
  rintro d ⟨e,b⟩ M L a;rw[D]at a;exact ak [] [] [(16,.d ((d:Int)<t.Links.length))]<|A.seq<|aS (cT L)<|A.exit<|aX (e,b) a
 refine aS o<|A.exit<|bD [] [1,3,4,11] [(2,.cc 68)] [69] []<|A.ret ?_
 obtain rfl:=e0 a;exact auW aY [.bK [68]] rfl (by kernel_rfl)
def GV{r:Int}(a:p0 t=some r):bY prog 72 [] [.agg (c8 t)] (u r):=by
 refine bT func72 rfl rfl ?_;unfold p0 at a;refine aG [(0,.al 34)] [(1,.ptr 34 0)] [(34,.cells 36 (c8 t))]<|A.seq ?_
 obtain⟨H,aU,a⟩:=aB a;refine ak [(2,a1 (vY aU) u0)] [] [(17,.bool (!H))] ?_;rcases aV a with⟨n,a⟩|⟨n,a⟩
 .refine aT n<|aG [] [(2,u 2)] [] ?_
  cases a;exact A.ret bk
 refine aS n<|A.skip<|A.seq<|ak [(2,ai (bu bl t.Links))] [17] [(19,aD bl t.Links),(20,u t.Links.length),(21,u 0)]<|A.block<|auX 19 rfl λP=>?_
 obtain⟨M,N,I,L,a⟩:=cZ a;refine auV (l:=t.Links) (cD:=0) (B:=M) (K:=N) a (λc=>λ()=>[(1,.ptr 34 0),(19,aD bl t.Links),(20,u t.Links.length),(21,u c)]) (λc=>λ()=>[(34,.cells 36 (c8 t))]) ?_ ?_ ?_
 .exact cq
 .rintro c aM aZ ⟨⟩ O i a;rw[I]at a;refine ak [] [] [(22,.d ((c:Int)<t.Links.length))]<|A.seq<|aT (cU i)<|A.skip<|A.seq<|A.block<|bD [(0,bh (ix bl (cf i))),(2,.al 243)] [22] [(4,.ptr 243 0)] [] [(243,.cells 84 (ec aM))] ?_
  obtain⟨T,W,a⟩:=dx a;refine A.J (J:=T) (r:=r) (λq=>[(1,.ptr 34 0),(19,aD bl t.Links),(20,u t.Links.length),(21,u c),(34,.bool q)]) (λq=>[(34,.cells 36 (c8 t))]) ?_ ?_
  .obtain⟨a0,z,a⟩:=aB a;rcases aV a with⟨m,a⟩|⟨m,a⟩
   .exact c6 [(2,a1 (vY z) u0),(4,ai (be m))] [4] [(34,.bool true)] [243] []<|aX true a
   obtain⟨C,G,a⟩:=aB a;exact c6 [(2,a1 (vY z) u0),(4,ai (be m)),(7,a1 (vY G) u0)] [4] [(34,.bool (!C))] [243] []<|aX (!C) a
  rintro q a;rw[W]at a;rcases aV a with⟨j,a⟩|⟨j,a⟩
  .refine aT j<|aG [] [(2,u 2)] [] ?_
   cases a;exact A.ret bk
  exact aS j<|A.skip<|bn [(0,ai (cK i P))] [21,34] [(21,u ((c+1:Nat):Int))]<|aX () a
 rintro c ⟨⟩ O ch a;rw[L]at a;refine ak [] [] [(22,.d ((c:Int)<t.Links.length))]<|A.seq<|aS (cT ch)<|A.exit<|A.seq<|ak [] [19,20,21,22] [(5,u 1)]<|A.block<|ave 1 1 rfl rfl rfl λS=>?_
 obtain⟨X,ae,Y,Z,a⟩:=cZ a;refine auV (l:=t.Links) (cD:=1) (B:=X) (K:=ae) a (λd=>λ()=>[(1,.ptr 34 0),(5,u d)]) (λd=>λ()=>[(34,.cells 36 (c8 t))]) ?_ ?_ ?_
 .exact cq
 .rintro d aR a3 ⟨⟩ ag p a;rw[Y]at a;refine A.seq<|ak [(3,ai (bu bl t.Links))] [] [(40,.d ((d:Int)<t.Links.length))] ?_
  refine aT (cU p)<|A.skip<|A.seq<|A.block ?_
  obtain⟨U,D,a⟩:=aB a;refine bD [(4,bh (ix bl D)),(9,bh (ix bl (cf p))),(11,.al 244),(12,.al 245)] [40] [(6,.ptr 244 0),(7,.ptr 245 0)] [] [(244,.cells 84 (ec U)),(245,.cells 84 (ec aR))] ?_;obtain⟨a4,F,a⟩:=aB a;obtain⟨a5,V,a⟩:=aB a;obtain⟨Q,R,a⟩:=aB a;refine bD [(4,a1 (jM F) j1),(9,a1 (jM V) j1),(11,a1 (sC R) rF)] [6,7] [(66,.d (0<=Q))] [244,245] [] ?_;rcases aV a with⟨s,a⟩|⟨s,a⟩
  .refine aT s<|aG [] [(2,u 25)] [] ?_
   cases a;exact A.ret bk
  exact aS s<|A.skip<|bn [(1,ai (cK p S))] [5,66] [(5,u ((d+1:Nat):Int))]<|aX () a
 rintro d ⟨⟩ ag af a;rw[Z]at a;refine A.seq<|ak [(3,ai (bu bl t.Links))] [] [(40,.d ((d:Int)<t.Links.length))] ?_
 refine aS (cT af)<|A.exit<|bD [(0,.al 107),(3,l5 (jq (k:=.i64) (enc:=ew) [] t.cH true rfl))] [5,40] [(8,.cc 107)] [] [(107,.map 3 4 (bg .i64 ew (bc [] t.cH true)))]<|A.seq<|ak [(2,ai (bu bl t.Links))] [] [(72,aD bl t.Links),(73,u t.Links.length),(74,u 0)]<|A.block<|auX 72 rfl λan=>?_
 obtain⟨ao,aq,ar,aw,a⟩:=cZ a;refine auV (l:=t.Links) (cD:=0) (B:=ao) (K:=aq) a (λe=>λb=>[(1,.ptr 34 0),(8,.cc 107),(72,aD bl t.Links),(73,u t.Links.length),(74,u e)]) (λe=>λb=>[(34,.cells 36 (c8 t)),(107,.map 3 4 (bg .i64 ew b))]) ?_ ?_ ?_
 .exact cq
 .rintro e g a6 b am x a;rw[ar]at a;refine ak [] [] [(75,.d ((e:Int)<t.Links.length))]<|A.seq<|aT (cU x)<|A.skip<|A.seq<|A.block<|bD [(0,bh (ix bl (cf x))),(2,.al 188)] [75] [(10,.ptr 188 0)] [] [(188,.cells 84 (ec g))]<|A.seq<|ak [(3,l4 (lk (E:=4) (k:=.i64) (enc:=ew) b g.aJ false (λaW=>⟨_,zeroValue4 aW,λaY=>by simp[aN,bW,ew]⟩)))] [] [(81,.bool ((ay b g.aJ).getD false))] ?_
  rcases aV a with⟨o,a⟩|⟨o,a⟩
  .refine aT o<|aG [] [(2,u 8)] [] ?_
   cases a;exact A.ret bk
  exact aS o<|A.skip<|c6 [(3,l5 (jq (k:=.i64) (enc:=ew) b g.aJ true rfl))] [10,81] [] [107,188] [(107,.map 3 4 (bg .i64 ew (bc b g.aJ true)))]<|bn [(0,ai (cK x an))] [74] [(74,u ((e+1:Nat):Int))]<|aX (bc b g.aJ true) a
 rintro e b am aa a;rw[aw]at a;refine ak [] [] [(75,.d ((e:Int)<t.Links.length))]<|A.seq<|aS (cT aa)<|A.exit ?_
 obtain⟨h,ab,a⟩:=aB a;refine bD [(1,a1 (RA ab) OT)] [8,72,73,74,75] [(11,.b8 (bg .i64 ew h))] [107] []<|A.seq<|bD [(2,ai (bu bl t.Links))] [1] [(89,aD bl t.Links),(90,u t.Links.length),(91,u 0)] [34] []<|A.block<|auX 89 rfl λaI=>?_
 obtain⟨aA,aC,aE,aF,a⟩:=cZ a;refine auV (l:=t.Links) (cD:=0) (B:=aA) (K:=aC) a (λf=>λ()=>[(11,.b8 (bg .i64 ew h)),(89,aD bl t.Links),(90,u t.Links.length),(91,u f)]) (λf=>λ()=>[]) ?_ ?_ ?_
 .exact cq
 .rintro f v a7 ⟨⟩ az y a;rw[aE]at a;refine ak [] [] [(92,.d ((f:Int)<t.Links.length))]<|A.seq<|aT (cU y)<|A.skip<|A.seq<|A.block<|bD [(0,bh (ix bl (cf y))),(2,.al 246)] [92] [(13,.ptr 246 0)] [] [(246,.cells 84 (ec v))]<|bD [(3,g4 h v.aO ew false NG (R1 zeroValue4))] [13] [(99,.bool (!((ay h v.aO).getD false)))] [246] [] ?_
  rcases aV a with⟨w,a⟩|⟨w,a⟩
  .refine aT w<|aG [] [(2,u 10)] [] ?_
   cases a;exact A.ret bk
  exact aS w<|A.skip<|bn [(0,ai (cK y aI))] [91,99] [(91,u ((f+1:Nat):Int))]<|aX () a
 rintro f ⟨⟩ az ax a;rw[aF]at a;refine ak [] [] [(92,.d ((f:Int)<t.Links.length))]<|A.seq<|aS (cT ax)<|A.exit<|aG [] [(2,u 0)] [] ?_
 cases a;exact A.ret bk
def RB{r:(bH)}(a:r7 t=some r):bY prog 75 [] [.agg (c8 t)] (aD af r):=by
 refine bT func75 rfl rfl ?_;unfold r7 at a;refine aG [(0,.al 159)] [(1,.ptr 159 0)] [(159,.cells 36 (c8 t))]<|A.seq ?_
 obtain⟨j,v,a⟩:=aB a;refine ak [(1,a1 (GV v) Gx)] [] [(8,.bool (!decide (j=0)))] ?_;rcases aV a with⟨f,a⟩|⟨f,a⟩
 .refine aT f<|aG [] [(2,.bC)] [] ?_
  cases a;exact A.ret bk
 refine aS f<|A.skip<|bD [(2,.al 178)] [8] [(3,.own 178)] [] [(178,.slice 3 1 (ag af ([t.cH]:bH)) 0 false)]<|A.seq<|bD [(2,ai (bu bl t.Links))] [1] [(13,aD bl t.Links),(14,u t.Links.length),(15,u 0)] [159] []<|A.block<|auX 13 rfl λq=>?_
 obtain⟨n,o,k,m,a⟩:=cZ a;refine auV (l:=t.Links) (cD:=0) (B:=n) (K:=o) a (λb=>λc=>[(3,.own 600075003),(13,aD bl t.Links),(14,u t.Links.length),(15,u b)]) (λb=>λc=>[(600075003,.slice 3 1 (ag af c) 0 false)]) ?_ ?_ ?_
 .exact dJ [.eC 178 600075003] []
 .rintro b s w c p e a;rw[k]at a;refine ak [] [] [(16,.d ((b:Int)<t.Links.length))]<|A.seq<|aT (cU e)<|A.skip<|A.seq<|A.block<|bD [(0,bh (ix bl (cf e))),(2,.al 247)] [16] [(5,.ptr 247 0)] [] [(247,.cells 84 (ec s))] ?_
  obtain⟨g,h,a⟩:=aB a;exact c6 [(4,e9 179 (ap af (bytes:=8) (by decide) h))] [3,5] [(3,.own 179)] [600075003,247] [(179,.slice 3 1 (ag af g) 0 false)]<|bn [(0,ai (cK e q))] [15] [(15,u ((b+1:Nat):Int))]<|Exists.intro g (And.intro a (dJ [.eC 179 600075003] []))
 rintro b c p ch a;rw[m]at a;refine ak [] [] [(16,.d ((b:Int)<t.Links.length))]<|A.seq<|aS (cT ch)<|A.exit ?_
 obtain⟨i,a⟩:=gC a;refine aG [(1,cS [] (DH (d:=600075003) (T:=3) c (of_decide_eq_true i)) FY)] [(3,.own 600075003)] [(600075003,.slice 3 1 (ag af (dh c)) 0 false)]<|ak [] [3] [(2,.own 600075003)]<|A.ret ?_
 obtain rfl:=e0 a;exact auW aY [.bK [600075003]] rfl (by kernel_rfl)
variable {a b:aQ}{r:Int}
def RK(c:wC a b=some r):bY prog 125 [] [.agg (ec a),.agg (ec b)] (u r):=by
 refine bT func125 rfl rfl ?_;unfold wC at c;refine aG [(0,.al 213),(1,.al 214)] [(2,.ptr 213 0),(3,.ptr 214 0)] [(213,.cells 84 (ec a)),(214,.cells 84 (ec b))] ?_;obtain⟨i,g,c⟩:=aB c;obtain⟨h,d,c⟩:=aB c;obtain⟨e,f,c⟩:=aB c;refine aG [(4,a1 (jM g) j1),(9,a1 (jM d) j1),(11,a1 (sC f) rF)] [(4,u e)] [] ?_;cases c;exact A.ret bk
def HJ(c:wL a b=some r):bY prog 115 [] [.agg (ec a),.agg (ec b)] (u r):=by
 refine bT func115 rfl rfl ?_;unfold wL at c;refine aG [(0,.al 211),(1,.al 212)] [(2,.ptr 211 0),(3,.ptr 212 0)] [(211,.cells 84 (ec a)),(212,.cells 84 (ec b))] ?_;obtain⟨i,g,c⟩:=aB c;obtain⟨h,d,c⟩:=aB c;obtain⟨e,f,c⟩:=aB c;refine aG [(4,a1 (jM g) j1),(9,a1 (jM d) j1),(11,a1 (sC f) rF)] [(4,u e)] [] ?_;cases c;exact A.ret bk
def HS{a:bm}{b:bm}(c:wU a b=some r):bY prog 128 [] [.agg (l9 a),.agg (l9 b)] (u r):=by
 refine bT func128 rfl rfl ?_;unfold wU at c;refine aG [(0,.al 215),(1,.al 216)] [(2,.ptr 215 0),(3,.ptr 216 0)] [(215,.cells 175 (l9 a)),(216,.cells 175 (l9 b))] ?_;obtain⟨i,g,c⟩:=aB c;obtain⟨h,d,c⟩:=aB c;obtain⟨e,f,c⟩:=aB c;refine aG [(6,a1 (jM g) j1),(13,a1 (jM d) j1),(15,a1 (sC f) rF)] [(4,u e)] [] ?_;cases c;exact A.ret bk
def RW{a:cL}{b:cL}(c:wq a b=some r):bY prog 189 [] [.agg (nm a),.agg (nm b)] (u r):=by
 refine bT func189 rfl rfl ?_;unfold wq at c;refine aG [(0,.al 227),(1,.al 228)] [(2,.ptr 227 0),(3,.ptr 228 0)] [(227,.cells 237 (nm a)),(228,.cells 237 (nm b))] ?_;obtain⟨d,e,c⟩:=aB c;refine aG [(4,a1 (jM e) j1)] [(4,u d)] [] ?_;cases c;exact A.ret bk
end
section
set_option linter.all false
open Go Go.Proofs.Tryz Go.Sort Go.Lib Go.Shelf Go.RowKit
set_option maxRecDepth 100000
def pa(x y:Int):Int:=if x<y then -1 else if y<x then 1 else 0
def tL(x y:Int):hB x y=some (pa x y):=by
 unfold hB qa pa;by_cases a:x<y
 .simp[a,aj]
 .by_cases b:y<x<;>simp[a,b,aj]
def av8:Shelf.Ren:=
 {  f:=λa=>match a with|6=>124|15=>178|14=>177|28=>206|29=>207|20=>198|21=>199|22=>200|23=>201|24=>202|25=>203|26=>204|27=>205|46=>235|47=>236|48=>237|49=>238|50=>239|57=>258|n=>n,t:=λa=>match a with|22=>34|24=>84|25=>158|3=>3|39=>178|0=>0|53=>252|55=>254|4=>4|46=>246|45=>245|50=>89|5=>5|9=>9|66=>272|70=>276|76=>289|77=>290|n=>n,g:=λn=>n}
def avr:SlLaysF0.n6 prog av8:=
  {mixed:=by kernel_rfl,f6:=⟨ "slices.SortFunc[[]bitcast/api.Hop,bitcast/api.Hop]",of_decide_eq_true (by kernel_rfl),func124.trans (by kernel_rfl)⟩,
   f14:=⟨ "slices.pdqsortCmpFunc[bitcast/api.Hop]",of_decide_eq_true (by kernel_rfl),func177.trans (by kernel_rfl)⟩,f15:=func178.trans (by kernel_rfl),
   f20:=⟨ "slices.insertionSortCmpFunc[bitcast/api.Hop]",of_decide_eq_true (by kernel_rfl),func198.trans (by kernel_rfl)⟩,f21:=⟨ "slices.heapSortCmpFunc[bitcast/api.Hop]",
   of_decide_eq_true (by kernel_rfl),func199.trans (by kernel_rfl)⟩,f22:=⟨ "slices.breakPatternsCmpFunc[bitcast/api.Hop]",of_decide_eq_true (by kernel_rfl),func200.trans (by kernel_rfl)⟩,
   f23:=⟨ "slices.choosePivotCmpFunc[bitcast/api.Hop]",of_decide_eq_true (by kernel_rfl),func201.trans (by kernel_rfl)⟩,f24:=⟨ "slices.reverseRangeCmpFunc[bitcast/api.Hop]",
   of_decide_eq_true (by kernel_rfl),func202.trans (by kernel_rfl)⟩,f25:=⟨ "slices.partialInsertionSortCmpFunc[bitcast/api.Hop]",of_decide_eq_true (by kernel_rfl),
   func203.trans (by kernel_rfl)⟩,f26:=⟨ "slices.partitionEqualCmpFunc[bitcast/api.Hop]",of_decide_eq_true (by kernel_rfl),func204.trans (by kernel_rfl)⟩,
   f27:=⟨ "slices.partitionCmpFunc[bitcast/api.Hop]",of_decide_eq_true (by kernel_rfl),func205.trans (by kernel_rfl)⟩,f28:=func206.trans (by kernel_rfl),
   f29:=func207.trans (by kernel_rfl),f46:=⟨ "slices.siftDownCmpFunc[bitcast/api.Hop]",of_decide_eq_true (by kernel_rfl),func235.trans (by kernel_rfl)⟩,
   f47:=func236.trans (by kernel_rfl),f48:=func237.trans (by kernel_rfl),f49:=⟨ "slices.medianAdjacentCmpFunc[bitcast/api.Hop]",of_decide_eq_true (by kernel_rfl),
   func238.trans (by kernel_rfl)⟩,f50:=⟨ "slices.medianCmpFunc[bitcast/api.Hop]",of_decide_eq_true (by kernel_rfl),func239.trans (by kernel_rfl)⟩,
   f57:=⟨ "slices.order2CmpFunc[bitcast/api.Hop]",of_decide_eq_true (by kernel_rfl),func258.trans (by kernel_rfl)⟩,t0:=underlying0,a0:=isAgg0,z0:=sizeOf0,
   v0:=zeroValue0,t3:=underlying3,a3:=isAgg3,z3:=sizeOf3,v3:=zeroValue3,t4:=underlying4,a4:=isAgg4,z4:=sizeOf4,v4:=zeroValue4,
   t5:=underlying5,a5:=isAgg5,z5:=sizeOf5,v5:=zeroValue5,t9:=underlying9,a9:=isAgg9,z9:=sizeOf9,v9:=zeroValue9,t22:=underlying34,
   a22:=isAgg34,z22:=sizeOf34,v22:=zeroValue34,t25:=underlying158,a25:=isAgg158,z25:=sizeOf158,v25:=zeroValue158,t39:=underlying178,
   a39:=isAgg178,z39:=sizeOf178,v39:=zeroValue178,t45:=underlying245,a45:=isAgg245,z45:=sizeOf245,v45:=zeroValue245,t46:=underlying246,
   a46:=isAgg246,z46:=sizeOf246,v46:=zeroValue246,t50:=underlying89,a50:=isAgg89,z50:=sizeOf89,v50:=zeroValue89,t53:=underlying252,
   a53:=isAgg252,z53:=sizeOf252,v53:=zeroValue252,t55:=underlying254,a55:=isAgg254,z55:=sizeOf254,v55:=zeroValue254,t66:=underlying272,
   a66:=isAgg272,z66:=sizeOf272,v66:=zeroValue272,t70:=underlying276,a70:=isAgg276,z70:=sizeOf276,v70:=zeroValue276,t76:=underlying289,
   a76:=isAgg289,z76:=sizeOf289,v76:=zeroValue289,t77:=underlying290,a77:=isAgg290,z77:=sizeOf290,v77:=zeroValue290}
def jW(x:aQ):c4:=[.int .i64 x.aO,.int .i64 x.aJ]
def vg(I:a2)(x:aQ)(vs:c4):bX I (bl.enc x) vs↔vs=jW x:=by
 show bX I [.int .i64 x.aO,.int .i64 x.aJ] vs↔vs=_;simp only[bX,aN];constructor
 .rintro⟨_,_,rfl,rfl,⟨_,_,rfl,rfl,rfl⟩⟩;rfl
 .rintro rfl;exact⟨_,_,rfl,rfl,⟨_,_,rfl,rfl,rfl⟩⟩
def GB(I:a2)(β:Nat->Value)(x:aQ):bx I β (bl.enc x) (jW x):=by
 show bx I β [.int .i64 x.aO,.int .i64 x.aJ] _;simp only[bx,az,aN];exact⟨_,_,rfl,rfl,⟨_,_,rfl,rfl,rfl⟩⟩
def Gn(x:aQ):∀v∈jW x,v.oneCell'=true:=by
 intro v a;simp only[jW,List.mem_cons,List.not_mem_nil,or_false]at a;rcases a with rfl|rfl<;>rfl
def OK(a b:aQ):wC a b=some (c9 [λx:aQ=>x.aO,λx:aQ=>x.aJ] a b):=by
 unfold wC ku;simp only[tL,pa,c9];rcases Int.lt_trichotomy a.aO b.aO with c|c|c<;>rcases Int.lt_trichotomy a.aJ b.aJ with d|d|d<;>simp[aj,bZ,c,d]<;>(repeat (first|rw[if_neg (by omega)]|rw[if_pos (by omega)]))<;>simp
def Lo:ry prog 124 125 jW 2 (c9 [λx:aQ=>x.aO,λx:aQ=>x.aJ]):=λbE b aR a c e d f=>
 AnyQ.slices_SortFunc avr 2 isAgg84 sizeOf84 jW (λ_=>rfl) Gn _ (xS _) 125 #[] bE b aR a c (enters_of func125 (by kernel_rfl) rfl)
  (xz GB (λx g=>RK (OK x g)) bE b a.size c) e d f
variable {S6 zs:lR}{T:Nat}
def Kl{d:Nat}(c:gA (c9 [λx:aQ=>x.aO,λx:aQ=>x.aJ]) zs=some S6):cI prog 124 [(d,.slice T 2 (ag bl zs) 0 false)] [.own d,.fn 125 []] (λr a=>r=.bO []/\a=[(d,.slice T 2 (ag bl S6) 0 false)]):=
 xO vg (by decide) (λ_=>rfl) (λ_=>rfl) (mc _) Lo (λe aR b f=>AnyF.slices_SortFunc_none avr e aR b f) c
def OL(a b:aQ):wL a b=some (c9 [λx:aQ=>x.aO,λx:aQ=>x.aJ] a b):=by
 unfold wL ku;simp only[tL,pa,c9];rcases Int.lt_trichotomy a.aO b.aO with c|c|c<;>rcases Int.lt_trichotomy a.aJ b.aJ with d|d|d<;>simp[aj,bZ,c,d]<;>(repeat (first|rw[if_neg (by omega)]|rw[if_pos (by omega)]))<;>simp
def Lp:ry prog 124 115 jW 2 (c9 [λx:aQ=>x.aO,λx:aQ=>x.aJ]):=λbE b aR a c e d f=>
 AnyQ.slices_SortFunc avr 2 isAgg84 sizeOf84 jW (λ_=>rfl) Gn _ (xS _) 115 #[] bE b aR a c (enters_of func115 (by kernel_rfl) rfl)
  (xz GB (λx g=>HJ (OL x g)) bE b a.size c) e d f
def Km{d:Nat}(c:gA (c9 [λx:aQ=>x.aO,λx:aQ=>x.aJ]) zs=some S6):cI prog 124 [(d,.slice T 2 (ag bl zs) 0 false)] [.own d,.fn 115 []] (λr a=>r=.bO []/\a=[(d,.slice T 2 (ag bl S6) 0 false)]):=
 xO vg (by decide) (λ_=>rfl) (λ_=>rfl) (mc _) Lp (λe aR b f=>AnyF.slices_SortFunc_none avr e aR b f) c
def av9:Shelf.Ren:=
 {  f:=λa=>match a with|6=>127|15=>178|14=>179|28=>206|29=>207|20=>208|21=>209|22=>210|23=>211|24=>212|25=>213|26=>214|27=>215|46=>240|47=>236|48=>237|49=>241|50=>242|57=>259|n=>n,t:=λa=>match a with|22=>111|24=>175|25=>177|3=>3|39=>178|0=>0|53=>252|55=>254|4=>4|46=>246|45=>245|50=>89|5=>5|9=>9|66=>272|70=>276|76=>289|77=>290|n=>n,g:=λn=>n}
def avG:SlLaysF0.n6 prog av9:=
  {mixed:=by kernel_rfl,f6:=⟨ "slices.SortFunc[[]bitcast/arbor.Arc,bitcast/arbor.Arc]",of_decide_eq_true (by kernel_rfl),func127.trans (by kernel_rfl)⟩,
   f14:=⟨ "slices.pdqsortCmpFunc[bitcast/arbor.Arc]",of_decide_eq_true (by kernel_rfl),func179.trans (by kernel_rfl)⟩,f15:=func178.trans (by kernel_rfl),
   f20:=⟨ "slices.insertionSortCmpFunc[bitcast/arbor.Arc]",of_decide_eq_true (by kernel_rfl),func208.trans (by kernel_rfl)⟩,f21:=⟨ "slices.heapSortCmpFunc[bitcast/arbor.Arc]",
   of_decide_eq_true (by kernel_rfl),func209.trans (by kernel_rfl)⟩,f22:=⟨ "slices.breakPatternsCmpFunc[bitcast/arbor.Arc]",of_decide_eq_true (by kernel_rfl),func210.trans (by kernel_rfl)⟩,
   f23:=⟨ "slices.choosePivotCmpFunc[bitcast/arbor.Arc]",of_decide_eq_true (by kernel_rfl),func211.trans (by kernel_rfl)⟩,f24:=⟨ "slices.reverseRangeCmpFunc[bitcast/arbor.Arc]",
   of_decide_eq_true (by kernel_rfl),func212.trans (by kernel_rfl)⟩,f25:=⟨ "slices.partialInsertionSortCmpFunc[bitcast/arbor.Arc]",of_decide_eq_true (by kernel_rfl),
   func213.trans (by kernel_rfl)⟩,f26:=⟨ "slices.partitionEqualCmpFunc[bitcast/arbor.Arc]",of_decide_eq_true (by kernel_rfl),func214.trans (by kernel_rfl)⟩,
   f27:=⟨ "slices.partitionCmpFunc[bitcast/arbor.Arc]",of_decide_eq_true (by kernel_rfl),func215.trans (by kernel_rfl)⟩,f28:=func206.trans (by kernel_rfl),
   f29:=func207.trans (by kernel_rfl),f46:=⟨ "slices.siftDownCmpFunc[bitcast/arbor.Arc]",of_decide_eq_true (by kernel_rfl),func240.trans (by kernel_rfl)⟩,
   f47:=func236.trans (by kernel_rfl),f48:=func237.trans (by kernel_rfl),f49:=⟨ "slices.medianAdjacentCmpFunc[bitcast/arbor.Arc]",of_decide_eq_true (by kernel_rfl),
   func241.trans (by kernel_rfl)⟩,f50:=⟨ "slices.medianCmpFunc[bitcast/arbor.Arc]",of_decide_eq_true (by kernel_rfl),func242.trans (by kernel_rfl)⟩,
   f57:=⟨ "slices.order2CmpFunc[bitcast/arbor.Arc]",of_decide_eq_true (by kernel_rfl),func259.trans (by kernel_rfl)⟩,t0:=underlying0,a0:=isAgg0,z0:=sizeOf0,
   v0:=zeroValue0,t3:=underlying3,a3:=isAgg3,z3:=sizeOf3,v3:=zeroValue3,t4:=underlying4,a4:=isAgg4,z4:=sizeOf4,v4:=zeroValue4,
   t5:=underlying5,a5:=isAgg5,z5:=sizeOf5,v5:=zeroValue5,t9:=underlying9,a9:=isAgg9,z9:=sizeOf9,v9:=zeroValue9,t22:=underlying111,
   a22:=isAgg111,z22:=sizeOf111,v22:=zeroValue111,t25:=underlying177,a25:=isAgg177,z25:=sizeOf177,v25:=zeroValue177,t39:=underlying178,
   a39:=isAgg178,z39:=sizeOf178,v39:=zeroValue178,t45:=underlying245,a45:=isAgg245,z45:=sizeOf245,v45:=zeroValue245,t46:=underlying246,
   a46:=isAgg246,z46:=sizeOf246,v46:=zeroValue246,t50:=underlying89,a50:=isAgg89,z50:=sizeOf89,v50:=zeroValue89,t53:=underlying252,
   a53:=isAgg252,z53:=sizeOf252,v53:=zeroValue252,t55:=underlying254,a55:=isAgg254,z55:=sizeOf254,v55:=zeroValue254,t66:=underlying272,
   a66:=isAgg272,z66:=sizeOf272,v66:=zeroValue272,t70:=underlying276,a70:=isAgg276,z70:=sizeOf276,v70:=zeroValue276,t76:=underlying289,
   a76:=isAgg289,z76:=sizeOf289,v76:=zeroValue289,t77:=underlying290,a77:=isAgg290,z77:=sizeOf290,v77:=zeroValue290}
def qR(x:bm):c4:=[.int .i64 x.Hop.aO,.int .i64 x.Hop.aJ,.int .i64 x.b6]
def OM(I:a2)(x:bm)(vs:c4):bX I (cz.enc x) vs↔vs=qR x:=by
 show bX I [.int .i64 x.Hop.aO,.int .i64 x.Hop.aJ,.int .i64 x.b6] vs↔vs=_;simp only[bX,aN];constructor
 .rintro⟨_,_,rfl,rfl,⟨_,_,rfl,rfl,⟨_,_,rfl,rfl,rfl⟩⟩⟩;rfl
 .rintro rfl;exact⟨_,_,rfl,rfl,⟨_,_,rfl,rfl,⟨_,_,rfl,rfl,rfl⟩⟩⟩
def ON(I:a2)(β:Nat->Value)(x:bm):bx I β (cz.enc x) (qR x):=by
 show bx I β [.int .i64 x.Hop.aO,.int .i64 x.Hop.aJ,.int .i64 x.b6] _;simp only[bx,az,aN];exact⟨_,_,rfl,rfl,⟨_,_,rfl,rfl,⟨_,_,rfl,rfl,rfl⟩⟩⟩
def OO(x:bm):∀v∈qR x,v.oneCell'=true:=by
 intro v a;simp only[qR,List.mem_cons,List.not_mem_nil,or_false]at a;rcases a with rfl|rfl|rfl<;>rfl
def PN(a b:bm):wU a b=some (c9 [λx:bm=>x.Hop.aO,λx:bm=>x.Hop.aJ] a b):=by
 unfold wU ku;simp only[tL,pa,c9];rcases Int.lt_trichotomy a.Hop.aO b.Hop.aO with c|c|c<;>rcases Int.lt_trichotomy a.Hop.aJ b.Hop.aJ with d|d|d<;>simp[aj,bZ,c,d]<;>(repeat (first|rw[if_neg (by omega)]|rw[if_pos (by omega)]))<;>simp
def Lq:ry prog 127 128 qR 3 (c9 [λx:bm=>x.Hop.aO,λx:bm=>x.Hop.aJ]):=λbE b aR a c e d f=>
 AnyQ.slices_SortFunc avG 3 isAgg175 sizeOf175 qR (λ_=>rfl) OO _ (xS _) 128 #[] bE b aR a c (enters_of func128 (by kernel_rfl) rfl)
  (xz ON (λx g=>HS (PN x g)) bE b a.size c) e d f
def Ko{d:Nat}{zs S6:kZ}(c:gA (c9 [λx:bm=>x.Hop.aO,λx:bm=>x.Hop.aJ]) zs=some S6):cI prog 127 [(d,.slice T 3 (ag cz zs) 0 false)] [.own d,.fn 128 []] (λr a=>r=.bO []/\a=[(d,.slice T 3 (ag cz S6) 0 false)]):=
 xO OM (by decide) (λ_=>rfl) (λ_=>rfl) (mc _) Lq (λe aR b f=>AnyF.slices_SortFunc_none avG e aR b f) c
def awa:Shelf.Ren:=
 {  f:=λa=>match a with|6=>188|15=>178|14=>232|28=>206|29=>207|20=>249|21=>250|22=>251|23=>252|24=>253|25=>254|26=>255|27=>256|46=>262|47=>236|48=>237|49=>263|50=>264|57=>265|n=>n,t:=λa=>match a with|22=>234|24=>237|25=>239|3=>3|39=>178|0=>0|53=>252|55=>254|4=>4|46=>246|45=>245|50=>89|5=>5|9=>9|66=>272|70=>276|76=>289|77=>290|n=>n,g:=λn=>n}
def avH:SlLaysF0.n6 prog awa:=
  {mixed:=by kernel_rfl,f6:=⟨ "slices.SortFunc[[]bitcast/shortest.step,bitcast/shortest.step]",of_decide_eq_true (by kernel_rfl),func188.trans (by kernel_rfl)⟩,
   f14:=⟨ "slices.pdqsortCmpFunc[bitcast/shortest.step]",of_decide_eq_true (by kernel_rfl),func232.trans (by kernel_rfl)⟩,f15:=func178.trans (by kernel_rfl),
   f20:=⟨ "slices.insertionSortCmpFunc[bitcast/shortest.step]",of_decide_eq_true (by kernel_rfl),func249.trans (by kernel_rfl)⟩,f21:=⟨ "slices.heapSortCmpFunc[bitcast/shortest.step]",
   of_decide_eq_true (by kernel_rfl),func250.trans (by kernel_rfl)⟩,f22:=⟨ "slices.breakPatternsCmpFunc[bitcast/shortest.step]",of_decide_eq_true (by kernel_rfl),
   func251.trans (by kernel_rfl)⟩,f23:=⟨ "slices.choosePivotCmpFunc[bitcast/shortest.step]",of_decide_eq_true (by kernel_rfl),func252.trans (by kernel_rfl)⟩,
   f24:=⟨ "slices.reverseRangeCmpFunc[bitcast/shortest.step]",of_decide_eq_true (by kernel_rfl),func253.trans (by kernel_rfl)⟩,
   f25:=⟨ "slices.partialInsertionSortCmpFunc[bitcast/shortest.step]",of_decide_eq_true (by kernel_rfl),func254.trans (by kernel_rfl)⟩,
   f26:=⟨ "slices.partitionEqualCmpFunc[bitcast/shortest.step]",of_decide_eq_true (by kernel_rfl),func255.trans (by kernel_rfl)⟩,f27:=⟨ "slices.partitionCmpFunc[bitcast/shortest.step]",
   of_decide_eq_true (by kernel_rfl),func256.trans (by kernel_rfl)⟩,f28:=func206.trans (by kernel_rfl),f29:=func207.trans (by kernel_rfl),
   f46:=⟨ "slices.siftDownCmpFunc[bitcast/shortest.step]",of_decide_eq_true (by kernel_rfl),func262.trans (by kernel_rfl)⟩,f47:=func236.trans (by kernel_rfl),
   f48:=func237.trans (by kernel_rfl),f49:=⟨ "slices.medianAdjacentCmpFunc[bitcast/shortest.step]",of_decide_eq_true (by kernel_rfl),func263.trans (by kernel_rfl)⟩,
   f50:=⟨ "slices.medianCmpFunc[bitcast/shortest.step]",of_decide_eq_true (by kernel_rfl),func264.trans (by kernel_rfl)⟩,f57:=⟨ "slices.order2CmpFunc[bitcast/shortest.step]",
   of_decide_eq_true (by kernel_rfl),func265.trans (by kernel_rfl)⟩,t0:=underlying0,a0:=isAgg0,z0:=sizeOf0,v0:=zeroValue0,t3:=underlying3,a3:=isAgg3,
   z3:=sizeOf3,v3:=zeroValue3,t4:=underlying4,a4:=isAgg4,z4:=sizeOf4,v4:=zeroValue4,t5:=underlying5,a5:=isAgg5,z5:=sizeOf5,
   v5:=zeroValue5,t9:=underlying9,a9:=isAgg9,z9:=sizeOf9,v9:=zeroValue9,t22:=underlying234,a22:=isAgg234,z22:=sizeOf234,v22:=zeroValue234,
   t25:=underlying239,a25:=isAgg239,z25:=sizeOf239,v25:=zeroValue239,t39:=underlying178,a39:=isAgg178,z39:=sizeOf178,v39:=zeroValue178,
   t45:=underlying245,a45:=isAgg245,z45:=sizeOf245,v45:=zeroValue245,t46:=underlying246,a46:=isAgg246,z46:=sizeOf246,v46:=zeroValue246,
   t50:=underlying89,a50:=isAgg89,z50:=sizeOf89,v50:=zeroValue89,t53:=underlying252,a53:=isAgg252,z53:=sizeOf252,v53:=zeroValue252,
   t55:=underlying254,a55:=isAgg254,z55:=sizeOf254,v55:=zeroValue254,t66:=underlying272,a66:=isAgg272,z66:=sizeOf272,v66:=zeroValue272,
   t70:=underlying276,a70:=isAgg276,z70:=sizeOf276,v70:=zeroValue276,t76:=underlying289,a76:=isAgg289,z76:=sizeOf289,v76:=zeroValue289,
   t77:=underlying290,a77:=isAgg290,z77:=sizeOf290,v77:=zeroValue290}
def qS(x:cL):c4:=[.int .i64 x.dm,.int .i64 x.fS]
def PO(I:a2)(x:cL)(vs:c4):bX I (cM.enc x) vs↔vs=qS x:=by
 show bX I [.int .i64 x.dm,.int .i64 x.fS] vs↔vs=_;simp only[bX,aN];constructor
 .rintro⟨_,_,rfl,rfl,⟨_,_,rfl,rfl,rfl⟩⟩;rfl
 .rintro rfl;exact⟨_,_,rfl,rfl,⟨_,_,rfl,rfl,rfl⟩⟩
def PR(I:a2)(β:Nat->Value)(x:cL):bx I β (cM.enc x) (qS x):=by
 show bx I β [.int .i64 x.dm,.int .i64 x.fS] _;simp only[bx,az,aN];exact⟨_,_,rfl,rfl,⟨_,_,rfl,rfl,rfl⟩⟩
def PS(x:cL):∀v∈qS x,v.oneCell'=true:=by
 intro v a;simp only[qS,List.mem_cons,List.not_mem_nil,or_false]at a;rcases a with rfl|rfl<;>rfl
def PT(a b:cL):wq a b=some (c9 [λx:cL=>x.dm] a b):=by
 unfold wq;simp only[tL];unfold pa c9;simp only[aj,c9]
def Lr:ry prog 188 189 qS 2 (c9 [λx:cL=>x.dm]):=λbE b aR a c e d f=>
 AnyQ.slices_SortFunc avH 2 isAgg237 sizeOf237 qS (λ_=>rfl) PS _ (xS _) 189 #[] bE b aR a c (enters_of func189 (by kernel_rfl) rfl)
  (xz PR (λx g=>RW (PT x g)) bE b a.size c) e d f
def Kr{d:Nat}{zs S6:mZ}(c:gA (c9 [λx:cL=>x.dm]) zs=some S6):cI prog 188 [(d,.slice T 2 (ag cM zs) 0 false)] [.own d,.fn 189 []] (λr a=>r=.bO []/\a=[(d,.slice T 2 (ag cM S6) 0 false)]):=
 xO PO (by decide) (λ_=>rfl) (λ_=>rfl) (mc _) Lr (λe aR b f=>AnyF.slices_SortFunc_none avH e aR b f) c
end
end Go.Proofs.YtmnbolcmepihlaaGreat
