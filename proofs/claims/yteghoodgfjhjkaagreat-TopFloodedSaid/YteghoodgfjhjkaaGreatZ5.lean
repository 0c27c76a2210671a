/- A part of the proof; the last text says of what. No condition but those that stand in each. -/
import Derived.Test.YteghoodgfjhjkaaGreatZ4
import Derived.Test.YteghoodgfjhjkaaGreatZ3
namespace Go.Proofs.YteghoodgfjhjkaaGreat
section
set_option linter.all false
open Go
variable {k:Int}{t:bH}
def JF(h:e7 t)(R:0<=k/\k<=8):Ok (um t k 0) (λp=>vA k p.1/\e7 p.2):=by
 unfold um;refine atO (by simp;omega) ?_;refine atY (λe (c:l5×bR×Int)=>((c.1.length:Int)<=3*(e-1)/\(∀a∈c.1,(1<=a.Router/\a.Router<e)/\(0<=a.Claim.cg/\a.Claim.cg<=2)/\gG a.Claim=true)/\c.1.Pairwise k0)/\e7 (bH.mk c.2.1 c.2.2)) 1 (k+1) ?_ ?_ _ _ _ rfl (by omega) (by omega) ⟨⟨by simp,by simp,by simp⟩,h⟩
 .rintro e ⟨M,G,At⟩ bb L o ⟨⟨m,g,j⟩,l⟩ H;simp only at m g j;refine atY (λc (d:l5×bR×Int)=>((d.1.length:Int)<=3*(e-1)+c/\(∀a∈d.1,((1<=a.Router/\a.Router<e)\/(a.Router=e/\a.Claim.cg<c))/\(0<=a.Claim.cg/\a.Claim.cg<=2)/\gG a.Claim=true)/\d.1.Pairwise k0)/\e7 (bH.mk d.2.1 d.2.2)) 0 3 ?_ ?_ _ _ _ rfl (by omega) (by omega) ⟨⟨by simp only;omega,λa b=>⟨.inl (g a b).1,(g a b).2⟩,j⟩,l⟩
  .rintro c ⟨B,K,I⟩ O F r ⟨⟨q,f,i⟩,s⟩ J;simp only at q f i;refine atD (λd:l5×bR×Int=>((d.1.length:Int)<=3*(e-1)+(c+1)/\(∀a∈d.1,((1<=a.Router/\a.Router<e)\/(a.Router=e/\a.Claim.cg<c+1))/\(0<=a.Claim.cg/\a.Claim.cg<=2)/\gG a.Claim=true)/\d.1.Pairwise k0)/\e7 (bH.mk d.2.1 d.2.2)) (λd n=>J _ n) λN A=>?_;have C:∀a∈B,((1<=a.Router/\a.Router<e)\/(a.Router=e/\a.Claim.cg<c+1))/\(0<=a.Claim.cg/\a.Claim.cg<=2)/\gG a.Claim=true:=λa b=>⟨by have:=(f a b).1;omega,(f a b).2⟩;refine Ok.aa (i3 s (by omega)) λp y=>?_;refine Ok.cs (λ_=>?_) λ_=>A _ ⟨⟨by simp only;omega,C,i⟩,y.2⟩;refine Ok.aa (vT y.2 (by decide) (by decide)) λz D=>?_;refine Ok.aa (KH D.2) λP x=>?_;have Q:1<=z.1/\z.1<=256:=by
    have:=D.1;simp only[List.mem_cons,List.not_mem_nil,or_false]at this;omega
   refine Ok.aa (nu (by simp;omega)) λE u=>A _ ⟨⟨?_,λa b=>?_,?_⟩,x.2⟩
   .have:=u.2;rw[List.length_cons,List.length_nil]at this;simp only;omega
   .have b:a∈E:=b;rw[u.1]at b;rcases List.mem_append.1 b with b|b
    .exact C a b
    .rw[List.mem_singleton]at b;subst b;refine⟨.inr ⟨rfl,by show c<c+1;omega⟩,⟨F,by show c<=2;omega⟩,?_⟩;simp only[gG,dk,Bool.and_eq_true,decide_eq_true_eq];exact⟨⟨by omega,by omega⟩,x.1⟩
   .show E.Pairwise k0;rw[u.1];refine List.pairwise_append.2 ⟨i,by simp,λd n S w=>?_⟩;rw[List.mem_singleton]at w;subst w;rcases(f d n).1 with v|v
    .exact .inl v.2
    .exact .inr v
  .rintro c ⟨B,K,I⟩ F r ⟨⟨q,f,i⟩,s⟩;have r:=r (by omega);simp only at q f i;exact H _ ⟨⟨by simp only;omega,λa b=>⟨by have:=f a b;omega,(f a b).2⟩,i⟩,s⟩
 .rintro e ⟨M,G,At⟩ L o ⟨⟨m,g,j⟩,l⟩;have o:=o (by omega);simp only at m g j;unfold jn;simp only[show decide ((0:Int)<0)=false from rfl,cond_false];exact Ok.s ⟨⟨λa b=>⟨by have:=(g a b).1;omega,(g a b).2⟩,j,by simp only;omega⟩,l⟩
theorem MA{y x:bZ}(h:k0 y x):decide ((0:Int)<=jv [dM y.Router x.Router,dM y.Claim.cg x.Claim.cg])=false:=by
 refine decide_eq_false ?_;have d:dM y.Router x.Router<0↔y.Router<x.Router:=sq;have c:dM y.Router x.Router=0↔y.Router=x.Router:=k7;have e:dM y.Claim.cg x.Claim.cg<0↔y.Claim.cg<x.Claim.cg:=sq;unfold jv jv;rcases h with a|⟨a,b⟩
 .grind
 .grind
def Mt{g:aK}{cl:l5}(j:cU g)(h:vA k cl)(C:k<=8)(u:∀o∈cl,o.Router∈ids g):pz g cl=some (ql g cl,0):=by
 have n:=h.n;have n:cl.length<=24:=by omega
 have A:=j.iP;have p:=gj.2 j
 have q:nP cl (λ(v:bZ)=>pE v g)=some false:=by
  unfold nP tj
  rw[show(bL cl 0 _ _ ())=some (-1:Int)from hW (L:=cl) (λ_=>()) _ rfl (λa b f bb c e=>by
   have:pE b g=some false:=by
    unfold pE;rw[vV g _ (by omega),aU,p,ku.1 (u b (by rw[<-c];simp))];rfl
   show(aa (pE b g) λr=>bif r then some (a.length:Int)else bb ())=some (-1);rw[this];exact e) cl [] rfl]
  rfl
 unfold pz;rw[pU,p,q];simp only[aU,decide_true,Bool.not_true,cond_false];refine hW (L:=cl) (λ_=>()) _ ?_ (λa b f bb c e=>?_) cl [] rfl
 rotate_left
 .unfold jn;by_cases x:0<a.length
  .obtain⟨i,d,rfl⟩:∃i d,a=i++[d]:=⟨a.dropLast,a.getLast (λy=>by simp[y]at x),(List.dropLast_concat_getLast _).symm⟩;have z:b4 cl (a1 (((i++[d]).length:Int)-1))=some d:=by
    have l:=congrArg List.length c;simp at l;rw[qk (by omega) (by simp;omega),<-c];have:=g9 i d (b::f);simpa using this
   have t:k0 d b:=by
    have:=h.s;rw[<-c,List.append_assoc,List.pairwise_append]at this;have:=this.2.1;simp at this;exact this.1.1
   simp only[show decide ((0:Int)<((i++[d]).length:Int))=true from decide_eq_true (by simp),z,vp,Ay,aU,cond_true,MA t,cond_false];exact e
  .simp only[show decide ((0:Int)<(a.length:Int))=false from decide_eq_false (by omega),cond_false];exact e
 .show(aa (mO g.Links) _)=_;rw[su (by have:=j.nl;omega),aU];have B:∀f:bk,(cl.filter λo=>decide (o.Router=f.aP)).length<=24:=λf=>Nat.le_trans (List.length_filter_le _ _) n;refine hW (L:=g.aL) (λa=>a.map (mo cl)) _ ?_ (λa b f bb c e=>?_) g.aL [] rfl
  .have m:=CX j h;have w:=m.v.sm;show aa (ji (ql g cl)) _=_;rw[k4 w,kD.2 m.v];rfl
  .have l:=congrArg List.length c;simp at l;refine(pV (λo:bZ=>decide (o.Router=b.aP)) (λo=>o.Claim) cl 0 [] (λE o bb F D s=>?_) (by simp;omega)).trans ?_
   .unfold jn;simp only[nD s,aU]
   .rw[nD (by simp;omega),aU];rw[show a.map (mo cl)++[a2.mk b.aP 0 b.bw ([]++(cl.filter λo=>decide (o.Router=b.aP)).map λo=>o.Claim) (bF.mk [])]=(a++[b]).map (mo cl)by simp[mo]];exact e
structure y7(B:Int)(f:aA)(k:Nat):Prop where
 h:ei B f
 m:f.aY=[]
 k:2*(ids (aN f)).length<=k
 n:1<=f.ay.length
 c:∀x∈(aN f).aL,x.bw=true
def Lk{n:Nat}(c:1<=n/\n<=24):tT (n:Int)=some ((2*n:Nat):Int):=by
 unfold tT;have a:¬(n:Int)<0:=by omega
 have b:¬(1099511627776:Int)<(n:Int):=by omega
 simp only[a,b,if_false]
 first
  |rw[et (by omega) (by omega)];congr 1
  |(congr 1;rw[et (by split<;>(try split)<;>omega) (by split<;>(try split)<;>omega)];split<;>(try split)<;>omega)
def JG(h:e7 t):Ok (uG t 4) (λq=>(∃B f k,y7 B f k/\q.1=dY k f)/\q.2.1=true/\e7 q.2.2):=by
 unfold uG;refine Ok.aa (JB h (by omega)) λi g=>?_;obtain⟨i,t1⟩:=i;obtain⟨g,af⟩:=g;simp only at g af;dsimp only;have a5:=g.n;refine Ok.aa (JF af (by omega)) λF v=>?_;obtain⟨F,t2⟩:=F;obtain⟨v,ae⟩:=v;simp only at v ae
 have aq:∀H∈F,H.Router∈ids i:=λH ak=>by
  have:=(v.g H ak).1;obtain⟨j,c,aD⟩:=g.all H.Router this.1 this.2;exact List.mem_map.2 ⟨j,c,aD⟩
 rw[Mt g.v v (by omega) aq,aU];refine atB (λA (a:jC×kT×ng)=>oF (aA.mk a.1 a.2.1 a.2.2) A.length/\aN (aA.mk a.1 a.2.1 a.2.2)=i) ?_ _ ⟨CX g.v v,DL i F⟩ ?_
 .rintro A j W ⟨O,l,Q⟩ bb aj ⟨w,n⟩ L;simp only at w n ⊢;have c:(aN (aA.mk O l Q)).aL=A++j::W:=by rw[n];exact aj
  have c:l.map (λC=>bk.mk C.Router C.bw)=A++j::W:=c;obtain⟨R,aQ,aE,aF,am⟩:=List.map_eq_append_iff.1 c;obtain⟨C,ah,ar,an,a0⟩:=List.map_eq_cons_iff.1 am;have av:j.aP=C.Router:=by rw[<-an]
  have Z:A.length=R.length:=by rw[<-aF];simp
  have aC:(aA.mk O l Q).ay=R++C::ah:=by show l=_;rw[aE,ar]
  rw[Z]at w;obtain⟨p,aI,ao,aJ⟩:=w.step aC;rw[av,aI,aU];simp only[decide_true,Bool.not_true,cond_false];refine L _ ⟨?_,aJ.trans n⟩;rw[List.length_append,Z];exact ao
 rintro⟨O,l,Q⟩ ⟨w,n⟩;simp only at w n ⊢;have a4:l.length=i.aL.length:=by rw[<-n];simp[aN]
 have V:=w.hd (by show l.length<=_;omega) (by show 1<=l.length;omega);rw[n]at V;refine Ok.aa (i3 ae (by omega)) λa9 K=>?_;have a7:=K.1.2.1 (by omega);have ax:=K.1.1;refine atT (λa:Int×jC×kT×ng×bR×Int=>(0<=a.1/\a.1<=8)/\gM (1+(8-a.1)) i.aL (aA.mk a.2.1 a.2.2.1 a.2.2.2.1)/\e7 (bH.mk a.2.2.2.2.1 a.2.2.2.2.2)) (λa=>a.1.toNat) ⟨⟨ax,by simp only;omega⟩,V.mono (by simp only;omega),K.2⟩ (by simp only;omega) ?_;rintro⟨G,x,b,y,a3,a6⟩ bb ⟨aG,d,I⟩ L;simp only at aG d I ⊢;refine Ok.cs (λo=>?_) λ_=>?_
 .have a1:0<G:=by simpa using o
  refine atD (λa:bR×Int×jC×kT×ng=>gM (1+(8-(G-1))) i.aL (aA.mk a.2.2.1 a.2.2.2.1 a.2.2.2.2)/\e7 (bH.mk a.1 a.2.1)) (λa s=>?_) λaT U=>?_
  .rw[et (by omega) (by omega)];exact L _ ⟨by simp only;omega,s.1,s.2⟩ (by simp only;omega)
  refine atD (λa:Int×bR×Int×jC×kT×ng=>(a.1=0->gM (1+(8-G)+1) i.aL (aA.mk a.2.2.2.1 a.2.2.2.2.1 a.2.2.2.2.2))/\e7 (bH.mk a.2.1 a.2.2.1)) (λa s=>?_) λaW u=>?_
  .refine Ok.cs (λh=>U _ ⟨?_,s.2⟩) λ_=>U _ ⟨d.mono (by omega),s.2⟩;exact(s.1 (by simpa using h)).mono (by omega)
  refine Ok.aa (i3 I (by omega)) λq r=>?_;refine Ok.cs (λ_=>?_) λ_=>?_
  .have au:=d.v.sm;rw[zo au,aU,aU];refine Ok.aa (J3 r.2 ⟨by have:=d.v.t.iP;omega,by have:=d.v.t.nl;omega⟩) λS aH=>?_;rw[JP,aU];have aw:(vi (aN (aA.mk x b y)) S.1).Links.length<=100000:=by
    have:=(Jj (aN (aA.mk x b y)) S.1).nl;omega
   exact Ok.aa (DD d (by omega) aw) λp e=>u _ ⟨e,aH.2⟩
  refine Ok.cs (λ_=>?_) λ_=>?_
  .exact Ok.aa (DD d (by omega) (by have:=g.v.nl;omega)) λp e=>u _ ⟨e,r.2⟩
  refine Ok.cs (λ_=>?_) λ_=>?_
  .exact Ok.aa (D5 r.2 (by omega) (by omega)) λj c=>Ok.aa (Kb d (by omega) _) λp e=>u _ ⟨e,c⟩
  refine Ok.cs (λ_=>?_) λ_=>?_
  .exact Ok.aa (D5 r.2 (by omega) (by omega)) λj c=>Ok.aa (MT d _) λp e=>u _ ⟨e,c⟩
  refine Ok.cs (λ_=>?_) λ_=>?_
  .exact Ok.aa (i3 r.2 (by omega)) λj c=>Ok.aa (MU d _) λp e=>u _ ⟨e,c.2⟩
  .exact Ok.aa (i3 r.2 (by omega)) λj c=>Ok.aa (Kc d (by omega) _) λp e=>u _ ⟨e,c.2⟩
 .have c:=d.HF (by omega);have E:=d.n;have P:=d.v.len;have D:=Ez c;have M:=(yQ d.v).2;have ab:=DA c;have aV:(ids (aN (gb (aA.mk x b y)))).length=b.length:=by rw[ab];simp[ids,aN]
  have E:1<=b.length:=E;have P:b.length<=24:=P;rw[Lk ⟨E,P⟩,aU]
  have X:y7 (1+(8-G)) (gb (aA.mk x b y)) (2*b.length):=⟨D,M,by omega,by rw[DB c];exact E,λaM T=>by
   rw[ab,d.r]at T;exact g.c aM T⟩
  refine atT (λa:Int×jC×kT×ng=>(0<=a.1/\a.1<=((2*b.length:Nat):Int))/\((a.1=((2*b.length:Nat):Int)/\aA.mk a.2.1 a.2.2.1 a.2.2.2=aA.mk x b y)\/(a.1<((2*b.length:Nat):Int)/\aA.mk a.2.1 a.2.2.1 a.2.2.2=dY (2*b.length-a.1.toNat) (gb (aA.mk x b y))))) (λa=>a.1.toNat) ⟨⟨by simp only;omega,by simp only;omega⟩,.inl ⟨rfl,rfl⟩⟩ (by simp only;omega) ?_;rintro⟨z,R,ah,a8⟩ aX ⟨ai,N⟩ Y;simp only at ai N ⊢;refine Ok.cs (λo=>?_) λo=>?_
  .have o:0<z:=by simpa using o
   rcases N with⟨J,m⟩|⟨J,m⟩
   .rw[m,round_eq c,aU,et (by omega) (by omega)];refine Y _ ⟨by simp only;omega,.inr ⟨by simp only;omega,?_⟩⟩ (by simp only;omega);simp only;rw[show 2*b.length-(z-1).toNat=1 by omega];rfl
   .rw[m,LM D M,aU,et (by omega) (by omega)];refine Y _ ⟨by simp only;omega,.inr ⟨by simp only;omega,?_⟩⟩ (by simp only;omega);simp only;rw[show 2*b.length-(z-1).toNat=2*b.length-z.toNat+1 by omega]
  .have o:¬0<z:=by simpa using o
   rcases N with⟨J,m⟩|⟨J,m⟩
   .omega
   .rw[show 2*b.length-z.toNat=2*b.length by omega]at m;simp only[decide_true,cond_true];rw[m,J7 (h2 D _).v.sm,BY D M X.k,aU];exact Ok.s ⟨⟨_,_,_,X,rfl⟩,rfl,I⟩
def O0{t:aK}(a:cU t){x:bk}(b:x∈t.aL):hP t x.aP=some x.bw:=by
 unfold hP;simp only[zy t _ (by have:=a.iP;omega),u0,gj.2 a,Hk a b,aU,decide_true,cond_true]
structure vD(T:aK)(r s:Int)(W:aK)(P:eE):Prop where
 v:cU W
 w:∃out,W=nv T (gC.mk [] out)/\∀y∈ids T,(y∉out↔ds T [] r y)
 c:∀x∈W.aL,x.bw=true
 n:W.aL≠[]
 l:W.aL.length=(nw T [] r).length
 p:lQ P=some true
 e:∀x∈P.c9,x.Router∈ids W
 s:P.cg=s
 k:P.c9.length<=24
def vD.tables{T:aK}{r s:Int}{W:aK}{P:eE}(h:vD T r s W P):pO W P=some (W.aL.map λr=>ea P (hj W) P.c9 r.aP,0)/\∀r∈ids W,lX W P r=some (ea P (hj W) P.c9 r,0):=by
 have C:=h.v.iP;refine DK h.v (by rw[pU,gj.2 h.v]) h.p h.n h.c (λn q=>?_) (λn q=>?_) (by have:=h.k;omega) h.e
 .obtain⟨x,u,rfl⟩:=List.mem_map.1 q;rw[O0 h.v u,h.c x u]
 .rw[vV W _ (by omega),gj.2 h.v,ku.1 q];rfl
def JX{B:Int}{f:aA}{k:Nat}(h:y7 B f k){r:Int}(C:r∈ids (aN f)){s:Int}(T:0<=s/\s<=7):∃W P,uH (dY k f) r s=some (W,P,W.aL.map (λx=>ea P (hj W) P.c9 x.aP),true)/\vD (aN f) r s W P:=by
 have E:=h2 h.h k;have y:=ox h.h k
 have u:∀j,hf (aN f) r j=true↔ds (aN f) [] r j:=λj=>by
  unfold hf;simp only[Bool.and_eq_true,decide_eq_true_eq];exact⟨λm=>m.2,λm=>⟨⟨⟨gj.2 h.h.v.t,ku.1 C⟩,ku.1 (m.ids h.h.v.t C)⟩,m⟩⟩
 generalize t:aN f=b at *;have ai:cU b:=t▸h.h.v.t;obtain⟨v,aC⟩:∃v,v=(ids b).filter λj=>!hf b r j:=⟨_,rfl⟩
 have K:∀j∈ids b,(j∉v↔ds b [] r j):=λj J=>by
  rw[aC,List.mem_filter,<-u];cases hf b r j<;>simp[J]
 obtain⟨W,D⟩:∃W,W=nv b (gC.mk [] v):=⟨_,rfl⟩;have H:cU W:=D▸ai.Cb (gC.mk [] v)
 have A:W.aL=b.aL.filter λx=>hf b r x.aP:=by
  rw[D];show b.aL.filter _=_;refine List.filter_congr λx e=>?_;have:=K x.aP (List.mem_map.2 ⟨x,e,rfl⟩);rw[<-u]at this;rw[Bool.eq_iff_iff,<-this];simp
 obtain⟨o,F,G⟩:=Ai (f:=dY k f) (i:=r) (by rw[y];exact C)
 have af:∀a∈(dY k f).ay,hf b r a.Router=true->a.Database=o.Database:=λa g c=>by
  refine(DC h.h h.m (by rw[t];have:=h.k;rw[t]at this;exact this) F g ?_).symm;rw[t,G,<-u];exact c
 have ab:∀a∈(dY k f).ay,hf b r a.Router=true->lp a.Database a.Router W:=λa g c=>by
  have N:a.Router∈ids b:=by rw[<-y];exact k9 g
  have ah:=seen h.h h.m h.k g;rw[t]at ah;rw[D];refine ah.view ai N λj J=>?_;rw[K j J];have c:=(u _).1 c;exact⟨λm=>c.symm.trans m,λm=>c.trans m⟩
 have O:hf b r o.Router=true:=by rw[u,G];exact .refl (by simp)
 have aG:dS o.Database:=(E.v.n o F).2.2;obtain⟨I,ae⟩:=Lx aG (ab o F O) H;have aH:(ids W).length<=24:=by have:=H.iP;simpa [ids]using this
 have M:=Lw I s aH ae;obtain⟨⟨P,p⟩,au,Y,aJ,z,Q,aD⟩:=My I T M (Lv I s);simp only at Y z;subst Y;have S:vD b r s W P:=by
  refine⟨H,⟨v,D,K⟩,λx e=>?_,?_,?_,?_,λx e=>?_,by rw[z],?_⟩
  .rw[A]at e;have:=h.c x;rw[t]at this;exact this (List.mem_filter.1 e).1
  .obtain⟨x,e,p⟩:=List.mem_map.1 C;have:x∈W.aL:=by rw[A];exact List.mem_filter.2 ⟨e,by rw[p];have:=O;rw[G]at this;exact this⟩
   intro p;rw[p]at this;cases this
  .classical
   rw[A];unfold nw ids;rw[List.filter_map,List.length_map];congr 1;refine List.filter_congr λx e=>?_;rw[Bool.eq_iff_iff,u];simp
  .rw[z];exact Kf I T M Q aD
  .rw[z]at e;have:=Q.mem_iff.1 e;unfold fV at this;obtain⟨aQ,aM,rfl⟩:=List.mem_map.1 this;exact ae aQ (List.mem_filter.1 aM).1
  .rw[z];show aJ.length<=24;rw[Q.length_eq];exact M
 refine⟨W,P,?_,S⟩;have an:nA (dY k f):=E.v.sm;have aW:(dY k f).ay.length<=24:=E.v.len
 have aE:∀a∈(dY k f).ay,hf b r a.Router=true->lT a.Database a.Router=some W/\nU a.Database a.Router=some (W.aL.flatMap (iu o.Database))/\lX W P a.Router=some (ea P (hj W) P.c9 a.Router,0):=λa g c=>by
  have aj:=(E.v.n a g).2.2;obtain⟨aX,X,V⟩:=No aj.sm a.Router;have:=V.unique (ab a g c);subst this;refine⟨X,?_,S.tables.2 _ ?_⟩
  .have:=Lj aj.sm X V H.iP;rw[af a g c]at this;rw[af a g c];exact this
  .have N:a.Router∈ids b:=by rw[<-y];exact k9 g
   obtain⟨x,e,p⟩:=List.mem_map.1 N;exact List.mem_map.2 ⟨x,by rw[A];exact List.mem_filter.2 ⟨e,by rw[p];exact c⟩,p⟩
 have aF:W.aL.map (λx=>ea P (hj W) P.c9 x.aP)=((dY k f).ay.filter λl=>hf b r l.Router).map λl=>ea P (hj W) P.c9 l.Router:=by
  rw[A,<-y];show((List.map (λa:a2=>bk.mk a.Router a.bw) (dY k f).ay).filter _).map _=_;rw[List.filter_map,List.map_map];rfl
 rw[aF];refine atJ ?_;unfold uH;rw[zo an,aU,y];refine atB (λw (m:sV×pK×jC×Int×Int×u6)=>m.1=(w.filter λl=>hf b r l.Router).map (λl=>ea P (hj W) P.c9 l.Router)/\(o∈w->m.2=(W.aL,W.Links,P.cg,P.Length,P.c9))) ?_ _ ⟨rfl,by simp⟩ ?_
 .rintro w a aV ⟨R,av,aq,aw,ax,ar⟩ bb Z ⟨n,q⟩ L;simp only at n q;dsimp only;have g:a∈(dY k f).ay:=by rw[Z];simp
  have a0:w.length<(dY k f).ay.length:=by rw[Z];simp
  simp only[jn];rw[Jr,aU];cases c:hf b r a.Router with
  |false=>
   simp only[Bool.not_false,cond_true];refine L _ ⟨by simp only;rw[n,List.filter_append];simp[c],λd=>?_⟩;rcases List.mem_append.1 d with d|d
   .exact q d
   .rw[List.mem_singleton]at d;rw[<-d,O]at c;cases c
  |true=>
   obtain⟨ao,am,aT⟩:=aE a g c;simp only[Bool.not_true,cond_false,ao,am,au,aT,aU,decide_true,Bool.or_self];have aI:R.length<1000000:=by
    rw[n,List.length_map];exact Nat.lt_of_le_of_lt (List.length_filter_le _ _) (by omega)
   have U:R++[ea P (hj W) P.c9 a.Router]=((w++[a]).filter λl=>hf b r l.Router).map λl=>ea P (hj W) P.c9 l.Router:=by
    rw[n,List.filter_append,List.map_append];simp[c]
   rw[nD aI,aU];refine Ok.cs (λ_=>?_) λak=>?_
   .exact L _ ⟨U,λ_=>rfl⟩
   .refine L _ ⟨U,λd=>?_⟩;rcases List.mem_append.1 d with d|d
    .exact q d
    .rw[List.mem_singleton]at d;subst d;simp[G]at ak
 .rintro⟨R,av,aq,aw,ax,ar⟩ ⟨n,q⟩;simp only at n q;have:=q F;simp only[Prod.mk.injEq]at this;obtain⟨rfl,rfl,rfl,rfl,rfl⟩:=this;dsimp only;rw[n];exact Ok.s rfl
def g3:aK:=aK.mk [bk.mk 1 true,bk.mk 2 true] [aR.mk 1 2 1 1 0]
def u4:cU g3:=gj.1 (by kernel_rfl)
def MB:hj g3 (cF.mk 2 3) 1=[2]:=by
 have c:(1:Int)∈ids g3:=by show(1:Int)∈[1,2];simp
 have a:(2:Int)∈ids g3:=by show(2:Int)∈[1,2];simp
 have d2:gz g3 2 2=some 0:=M0 u4 a;have d1:gz g3 1 2=some 1:=by
  rw[AW u4 c a];obtain⟨d,b,e⟩:=LQ (vZ u4) (show iz g3 1 2=some 1 by kernel_rfl);have:=MW (vZ u4) b (by decide);rw[b,show d=1 by omega]
 unfold hj;show jW g3 2 1=[2];unfold jW;rw[show gc g3 1=[2]by kernel_rfl];have:n5 g3 2 1 2=true:=by
  unfold n5;rw[d1,d2];kernel_rfl
 simp[this]
def MC:rJ=some true:=by
 have a:(aa (pz (aK.mk ([(bk.mk (1:Int) true),(bk.mk (2:Int) true)]:pK) ([(aR.mk (1:Int) (2:Int) (1:Int) (1:Int) (0:Int))]:jC)) ([(bZ.mk (2:Int) (dA.mk (0:Int) (3:Int) (8:Int)))]:l5)) λ(h:aA×Int)=>aa (lN h.1 (1:Int)) λ(i:aA×Int)=>aa (lN i.1 (2:Int)) λ(e:aA×Int)=>aa (mZ e.1) λ(c:aA×Int)=>aa (b4 c.1.ay (0:Int)) λ(f:a2)=>aa (nU f.Database (1:Int)) λ(s:(l5))=>aa (pI s (0:Int)) λ(q:eE×Int)=>aa (lT f.Database (1:Int)) λ(t:aK)=>some (h.2,i.2,e.2,c.2,(c.1.ay.length:Int),q,t))=some (0,0,0,0,2,(eE.mk 0 8 [cF.mk 2 3],0),g3):=by kernel_rfl
 obtain⟨x,v,a⟩:=ah a;obtain⟨w,m,a⟩:=ah a;obtain⟨B,n,a⟩:=ah a;obtain⟨C,l,a⟩:=ah a;obtain⟨A,j,a⟩:=ah a;obtain⟨D,o,a⟩:=ah a;obtain⟨y,r,a⟩:=ah a;obtain⟨z,u,a⟩:=ah a;simp only[Option.some.injEq,Prod.mk.injEq]at a;obtain⟨dG,bE,cn,ki,jo,rfl,rfl⟩:=a;have g:lX g3 (eE.mk 0 8 [cF.mk 2 3]) 1=some (ea (eE.mk 0 8 [cF.mk 2 3]) (hj g3) [cF.mk 2 3] 1,0):=by
  refine(DK (p:=eE.mk 0 8 [cF.mk 2 3]) u4 (by kernel_rfl) (by kernel_rfl) (by simp[g3]) (by simp[g3]) (λd b=>?_) (λd b=>?_) (by simp) (by simp[g3,ids])).2 1 (by simp[g3,ids])
  .have b:d∈[(1:Int),2]:=b;simp only[List.mem_cons,List.not_mem_nil,or_false]at b;rcases b with rfl|rfl
   .exact(by kernel_rfl:hP g3 1=some true)
   .exact(by kernel_rfl:hP g3 2=some true)
  .have b:d∈[(1:Int),2]:=b;simp only[List.mem_cons,List.not_mem_nil,or_false]at b;rcases b with rfl|rfl
   .exact(by kernel_rfl:jG g3 1=some true)
   .exact(by kernel_rfl:jG g3 2=some true)
 have k:ea (eE.mk 0 8 [cF.mk 2 3]) (hj g3) [cF.mk 2 3] 1=dh.mk 1 0 8 [fF.mk 3 [2]]:=by
  unfold ea;simp only[List.map_cons,List.map_nil,MB]
 rw[k]at g;unfold rJ;rw[v,aU,m,aU,n,aU,l,aU,dG,bE,cn,ki,jo];simp only[decide_true,Bool.not_true,Bool.or_self,cond_false,j,o,r,u,g,aU,cond_true];rfl
def Jh(t:bR):x4 t=some true:=by
 unfold x4;refine atJ (Ok.aa (Pd t) λs w=>Ok.aa (JG w) λJ u=>?_);obtain⟨N,Q,t2⟩:=J;obtain⟨⟨B,e,f,d,q⟩,m,p⟩:=u;simp only at q m p ⊢;subst q m;have n:=h2 d.h f;have k:=ox d.h f;have O:1<=(dY f e).ay.length:=by rw[FX d.h f];exact d.n
 have P:(dY f e).ay.length<=24:=n.v.len;rw[show decide (((dY f e).ay.length:Int)=0)=false from decide_eq_false (by omega)];simp only[Bool.not_true,Bool.or_self,cond_false];refine Ok.aa (i3 p (by omega)) λj g=>?_;refine Ok.aa (lf g.1.1 (g.1.2.1 (by omega))) λi D=>?_;have o:i.Router∈ids (aN e):=by rw[<-k];exact k9 D.1
 obtain⟨c,b,H,l⟩:=JX d o (s:=0) (by omega);rw[H,aU,l.tables.1,aU];unfold jn;have E:pJ (aN e) i.Router=some (nw (aN e) [] i.Router):=C9 d.h.v.t o;simp only[Bool.not_true,cond_false,decide_true,zo n.v.sm,k,E,l.l,aU]
 have I:=hW (L:=c.aL.map λa=>ea b (hj c) b.c9 a.aP) (β:=Bool) (σ:=Unit) (λ_=>()) (v:=some true)
  (B:=λ(x:Int) (G:dh) (r:Unit->Option _) (h:Unit)=>match h with|()=>aa (b4 (c.aL.map λa=>ea b (hj c) b.c9 a.aP) (x:Int)) λ(y:dh)=>aa (rN G y) λ(A:Bool)=>bif !A then some false else r ())
  (K:=λ(h:Unit)=>match h with|()=>aa (rJ) λ(C:Bool)=>some C) (by rw[MC];rfl) (λj a M bb g z=>by
   have F:b4 (c.aL.map λa=>ea b (hj c) b.c9 a.aP) (j.length:Int)=some a:=by rw[<-g];exact g9 j a M
   simp only[F,aU,Lq,Bool.not_true,cond_false];exact z) _ [] rfl
 exact⟨true,I,rfl⟩
end
end Go.Proofs.YteghoodgfjhjkaaGreat
