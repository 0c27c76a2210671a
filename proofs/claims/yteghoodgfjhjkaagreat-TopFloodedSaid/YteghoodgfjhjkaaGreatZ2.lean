/- A part of the proof; the last text says of what. No condition but those that stand in each. -/
import Derived.Test.YteghoodgfjhjkaaGreatZ1
import Derived.Test.YteghoodgfjhjkaaGreatZ0
import Derived.Shelf.Sort.Plain
namespace Go.Proofs.YteghoodgfjhjkaaGreat
section
set_option linter.all false
open Go
section
section
def bJ.row{I q:aZ}(bp:bQ I q){b:Nat}:∀(cs:List H) (vs:cR) (o:Nat),bJ I cs vs->(∀j,j<vs.length->q b ((o+j:Nat):hD)=vs[j]?)->gE q b cs o
 |[],_,_,_,_=>by simp[gE]
 |x::r,vs,o,h,u=>by
  simp only[bJ]at h;obtain⟨O,C,rfl,S,Q⟩:=h;simp only[gE];refine⟨⟨O,?_,hl bp _ _ S⟩,bJ.row bp r C (o+1) Q λj X=>?_⟩
  .have:=u 0 (by simp);simpa using this
  .have:=u (j+1) (by simp;omega);rw[show o+1+j=o+(j+1)by omega];simpa using this
variable {G:bG}{T:Nat}{env:ag}{σ:U}
def avD(t C:Nat){cs:List H}(J:env.get t=.ptr C 0)(z:σ.get C=some (.cells T cs))(R:g7 cs=true):cu G env σ ((t,.dR cs)::env) (σ.minus [C]):=by
 intro ab h F a ae d v;have m:=d.bO C _ z;simp only[bc]at m;have p:=v t;rw[J]at p;simp only[au]at p;obtain⟨X,j,W⟩:=p;rcases m with n|⟨e,i,K,L,M,I,O⟩
 .rw[n]at j;simp[bK]at j
 .have S:e=X:=by rw[K]at j;simpa [bK]using j
  subst S
  let l:aZ:=h.on λb o=>if b=e then i[o]? else h b o
  have bp:bQ h l:=λb o k f=>by
   cases o with
   |none=>exact f
   |some o=>
   show(if b=e then i[o]? else h b o)=some k;split
   .rename_i s;subst s;rw[I]at f;cases f
   .exact f
  have y:∀b o,b≠e->l b o=h b o:=λb o q=>by
   cases o with
   |none=>rfl
   |some o=>
   show(if b=e then i[o]? else h b o)=_;rw[if_neg q]
  have w:∀c o,(σ.minus [C]).get c=some o->c≠C/\σ.get c=some o:=λc o g=>by
   rw[atE]at g;split at g
   .cases g
   .rename_i Y;exact⟨by simpa using Y,g⟩
  have A:∀c,((σ.minus [C]).get c).isSome->(σ.get c).isSome:=λc g=>by
   obtain⟨o,m⟩:=Option.isSome_iff_exists.1 g;rw[(w c o m).2];rfl
  have Q:gE l e cs 0:=bJ.row bp cs i.toList 0 (zd R M) λE Z=>by
   show(if e=e then i[0+E]? else h e (some (0+E)))=_;rw[if_pos rfl];simp
  refine⟨l,F,{good:=λb o k f=>?_,er:=d.er,e8:=λb o k f=>bp _ _ _ (d.e8 _ _ _ f),eW:=λb r B o=>?_,frame:=d.frame,size:=d.size,tape:=d.tape,os:=d.os,output:=d.output,drawn:=d.drawn,bO:=λc o g=>?_,cq:=λc D g N=>d.cq c D (A c g) (A D N),keep:=d.keep},λV=>?_⟩
  .change (if b=e then i[o]? else h b o)=some k at f
   split at f
   .rename_i s;subst s;simp only[World.cell?,L];simpa using f
   .exact d.good b o k f
  .have q:b≠e:=λu=>by
    subst u;rcases O with n|n
    .omega
    .exact B n
   rw[y b o q];exact d.eW b r B o
  .obtain⟨U,x⟩:=w c o g;refine(d.bO c o x).BF bp y λb r P=>?_;subst P;exact d.cq c C (by rw[x];rfl) (by rw[z];rfl) U b r (g4 j)
  .rw[atK];split
   .rename_i u;subst u
    simp only[au,aS];exact⟨e,0,W,Q⟩
   .exact(v.mono bp (eC.refl F)) V
variable {a:Act}{t:Nat}
def zL{v:Value}(h:t<a.tmps.size):(a.put (some t) v).eval (.tmp t)=v:=by
 simp[Act.put,Act.eval,Array.getD,h]
def sI{b:Nat}{v:Value}(h:t≠b):(a.put (some t) v).eval (.tmp b)=a.eval (.tmp b):=by
 simp[Act.put,Act.eval,Array.getD_eq_getD_getElem?,Array.getElem?_setIfInBounds,h]
def yO{P:Program}{b:ia}{Q:Exit->Act->World->Prop}{i:Nat}{l:cr}{w w':World}{o:Oper}{v:Value}(g:b[i]?=some o)(e:o.guard=none)(f:(execOp a.eval o).run P w=.ok (.value v) w')
  (k:wpOps P b Q l (a.put o.dst v) w'):wpOps P b Q (i::l) a w:=by
 have h:Region.wanted o (yielded b a.tmps)=true:=by simp[Region.wanted,e]
 simp only[wpOps,g,h,if_true];exact .inl (hc.wp (Φ:=λc d=>c=v/\d=w') (by rw[f];exact⟨rfl,rfl⟩) λc d j=>by obtain⟨rfl,rfl⟩:=j;exact k)
def za{α:Type}{sz:Nat}:∀(xs:List (List α)) (n:Nat),(∀e∈xs,e.length=sz)->(xs.take n).flatten=xs.flatten.take (n*sz)
 |[],_,_=>by simp
 |x::r,0,_=>by simp
 |x::r,n+1,h=>by
  have a:=h x (by simp);rw[List.take_succ_cons,List.flatten_cons,List.flatten_cons,za r n λe b=>h e (by simp[b]),Nat.add_mul,Nat.one_mul,Nat.add_comm (n*sz) sz,List.take_append,a];rw[List.take_of_length_le (l:=x) (by omega),Nat.add_sub_cancel_left]
def Ii(a:fz):∀m,(Builtin.zeroCells a m).toList=(List.replicate m a.toList).flatten:=by
 intro m;apply List.ext_getElem?;intro b;induction m generalizing b with
 |zero=>simp[Builtin.zeroCells]
 |succ m d=>
  rw[List.replicate_succ,List.flatten_cons];unfold Builtin.zeroCells at d ⊢;simp only[Array.toList_map,List.getElem?_map,Array.toList_range]at d ⊢;by_cases c:b<a.size
  .rw[List.getElem?_append_left (by simpa using c),List.getElem?_range (by rw[Nat.add_mul];omega)];simp[Nat.mod_eq_of_lt c,c]
  .rw[List.getElem?_append_right (by simpa using c)];have:=d (b-a.size);simp only[Array.length_toList];rw[<-this];by_cases e:b<(m+1)*a.size
   .rw[List.getElem?_range e,List.getElem?_range (by rw[Nat.add_mul]at e;omega)];simp[<-Nat.mod_eq_sub_mod (by omega:b>=a.size)]
   .rw[List.getElem?_eq_none (by simp;omega),List.getElem?_eq_none (by simp;rw[Nat.add_mul]at e;omega)]
def D0{I:aZ}{zr:List H}{a:cR}(h:bJ I zr a):∀m,bJ I (List.replicate m zr).flatten (List.replicate m a).flatten
 |0=>by simp[bJ]
 |m+1=>by
  rw[List.replicate_succ,List.flatten_cons,List.replicate_succ,List.flatten_cons];exact(gy _ _ _).2 ⟨_,_,rfl,h,D0 h m⟩
variable {α:Type}
def Ky(m:Nat)(l:List α):(List.replicate m l).flatten.length=m*l.length:=by
 induction m with
 |zero=>simp
 |succ m a=>rw[List.replicate_succ,List.flatten_cons,List.length_append,a,Nat.add_mul];omega
def Ow(e:eT α)(l:List α)(n:Nat)(a:α):(af e l).take n++List.replicate ((af e l).length-n) (e.enc a)=af e (l.take n++List.replicate (l.length-n) a):=by simp[af,List.map_take]
variable {i:Int}
def P8(e:eT α){l:List α}(h:0<=i/\i<(l.length:Int)):0<=i/\i<((af e l).length:Int):=by rw[i1];exact h
def A.RI{Q:Exit->ag->U->Prop}{id:Nat}(gK ab t1 t2 t3 E sz d:Nat){o0 X O u:Oper}{xs:List (List H)}{z:Value}{zr:List H}
  (aQ:o0.op=.move (.tmp gK)/\o0.dst=some t1/\o0.guard=none) (aT:X.op=.move (.tmp ab)/\X.dst=some t2/\X.guard=none)
  (ax:O.op=.slice T (.tmp t1) (some (.tmp t2)) none none/\O.dst=some t3/\O.guard=none) (aD:u.op=.call ⟨.builtin .clear,#[.tmp t3],#[T]⟩/\u.dst=none/\u.guard=none)
  (aH:t1<G.N/\t2<G.N/\t3<G.N) (a5:t1≠t2/\t1≠t3/\t2≠t3/\t1≠ab) (aI:iU G.P T E sz) (hz:∀w,(zeroValue E).run G.P w=.ok z w) (bA:∀v∈z.cells.toList,v.oneCell'=true) (bi:∀I,bJ I zr z.cells.toList) (b2:z.cells.size=sz)
  (aC:env.get gK=.own d) (hi:env.get ab=.int .i64 i) (hd:σ.get d=some (.slice E sz xs 0 false)) (b0:0<=i/\i<xs.length) (q:env.get t1=.c7/\env.get t2=.c7/\env.get t3=.c7)
  {ys:List (List H)} (bM:xs.take i.toNat++List.replicate (xs.length-i.toNat) zr=ys) (k:Q .normal env (σ.set d (.slice E sz ys 0 false))):aq G (.region id #[o0,X,O,u] false) Q env σ:=by
 subst bM;refine atQ λcx a w bq=>?_;obtain⟨I,β,ak,ar,ba,bY⟩:=bq;have ae:=ar gK;rw[aC]at ae;simp only[au]at ae
 obtain⟨ae,bh⟩:=ae;have af:=ar ab;rw[hi]at af;have af:=fB af
 have a1:=ak.bO d _ hd;simp only[bc]at a1;rcases a1 with aU|⟨aU,aj,_⟩|⟨b,aM,arr,av,aj,bp,an,aF,a4,aE,b8,b7,a6,a7⟩
 .rw[ae,aU]at bh;cases bh
 .subst aj;simp at b0;omega
 obtain⟨n,rfl⟩:∃n:Nat,i=(n:Int):=⟨i.toNat,by omega⟩;have ci:n<xs.length:=by omega
 simp only[Int.toNat_natCast]at k ⊢;have bB:a.eval (.tmp gK)=.slice (some ⟨b,0,none⟩) xs.length aM:=by rw[<-av];exact ae
 have af:a.eval (.tmp ab)=.int .i64 n:=af;obtain⟨ah,Z⟩:∃ah,ah=a.put (some t1) (.slice (some ⟨b,0,none⟩) xs.length aM):=⟨_,rfl⟩;obtain⟨S,Y⟩:∃S,S=ah.put (some t2) (.int .i64 n):=⟨_,rfl⟩;obtain⟨C,ai⟩:∃C,C=S.put (some t3) (.slice (some ⟨b,n*sz,none⟩) (xs.length-n) (aM-n)):=⟨_,rfl⟩;have bj:ah.tmps.size=G.N:=by rw[Z,oi];exact ba
 have a8:S.tmps.size=G.N:=by rw[Y,oi];exact bj
 have s3:C.tmps.size=G.N:=by rw[ai,oi];exact a8
 have bz:S.eval (.tmp t1)=.slice (some ⟨b,0,none⟩) xs.length aM:=by rw[Y,sI (Ne.symm a5.1),Z,zL (by rw[ba];exact aH.1)]
 have bt:S.eval (.tmp t2)=.int .i64 n:=by rw[Y,zL (by rw[bj];exact aH.2.1)]
 have bl:C.eval (.tmp t3)=.slice (some ⟨b,n*sz,none⟩) (xs.length-n) (aM-n):=by rw[ai,zL (by rw[a8];exact aH.2.2)]
 have bv:aM≠n:=by omega
 have br:(execOp S.eval O).run G.P w=.ok (.value (.slice (some ⟨b,n*sz,none⟩) (xs.length-n) (aM-n))) w:=by
  have bC:(Instr.sliceBounds true xs.length aM (some (.int .i64 n)) none none).run G.P w=.ok (n,xs.length,aM) w:=by
   have:=run_sliceBound (P:=G.P) (k:=.i64) (n:=(n:Int)) (y:=xs.length) (code:=.sliceB) (w:=w) ⟨by omega,by omega⟩;simp[Instr.sliceBounds,this]
  have bT:∀w,(underlying T).run G.P w=.ok (.slice E) w:=λw=>run_underlying aI.en w;simp only[execOp,ax.1,Instr.sliceAt,Instr.slice,bz,Option.map_some,bt,Sem.run_bind,bT,Result.andThen_ok,bC,aI.size,Sem.run_pure,Option.map_none];rw[if_neg bv];simp only[Addr.add_lit,Option.map_some,Nat.zero_add]
 have bb:z.cells.toList.length=sz:=by rw[<-b2,Array.length_toList]
 obtain⟨A,aG⟩:∃A,A=(arr.toList.take (n*sz)++(Builtin.zeroCells z.cells (xs.length-n)).toList++arr.toList.drop (n*sz+(Builtin.zeroCells z.cells (xs.length-n)).toList.length)).toArray:=⟨_,rfl⟩;have aJ:(Builtin.zeroCells z.cells (xs.length-n)).toList.length=(xs.length-n)*sz:=by rw[Ii,Ky,bb]
 have cd:n*sz+(xs.length-n)*sz=xs.length*sz:=by rw[<-Nat.add_mul];congr 1;omega
 have ce:xs.length*sz<=aM*sz:=Nat.mul_le_mul_right _ aj;have bu:(execOp C.eval u).run G.P w=.ok (.value (.tuple #[])) (w.setRow b A):=by
  have:=Ih (P:=G.P) w T E u.type z aI.en hz b (n*sz) (xs.length-n) (aM-n) arr E an (by omega) (by rw[aJ,aF];omega) (CC bA _);rw[<-aG]at this;simp only[execOp,aD.1];have aU:C.tmps.getD t3 undef=_:=bl;simp[resolve,invoke,builtin,bl,this,Result.andThen]
 have bX:iS G cx env (σ.set d (.slice E sz (xs.take n++List.replicate (xs.length-n) zr) 0 false)) C (w.setRow b A):=by
  refine⟨I,β,?_,λt=>?_,s3,by rw[ai,n9,Y,n9,Z,n9];exact bY⟩
  .have aW:bK (β d)=some b:=by rw[av];rfl
   refine ak.turn (d:=d) (eD.setRow w b _) a7 (λx aw=>by rw[atC,if_neg aw]) (λx aw aC e=>ak.cq x d aC (by rw[hd];rfl) aw b e (g4 aW)) (bQ.refl I) (λ_ _ _=>rfl)
    (λo v aX=>by rw[a6 o (by omega)]at aX;cases aX) (ak.k3 an) (λ_ _=>rfl) (.inr rfl) (eC.refl β) (.inl aW) λTK am=>?_
   rw[atC,if_pos rfl,hd]at am;injection am with am
   subst am;have bV:(xs.take n++List.replicate (xs.length-n) zr).length=xs.length:=by simp;omega
   simp only[bc,bV];have b3:zr.length=sz:=by rw[<-bb];exact(hy _ _ (bi I)).symm
   refine .inr (.inr ⟨b,aM,A,av,aj,bp,setRow_heap w b arr A E _ an,?_,?_,?_,Nat.zero_le _,(λh=>by cases h),a6,a7⟩)
   .rw[aG];simp only[List.size_toArray,List.length_append,List.length_take,List.length_drop,Array.length_toList,aJ,aF];omega
   .rw[List.flatten_append,za xs n aE];have bE:A.toList.take (xs.length*sz)=(arr.toList.take (xs.length*sz)).take (n*sz)++(List.replicate (xs.length-n) z.cells.toList).flatten:=by
     rw[aG,<-Ii,List.take_take,Nat.min_eq_left (by omega)];refine List.take_left' ?_;rw[List.length_append,List.length_take,aJ,Array.length_toList,aF];omega
    rw[bE];refine(gy _ _ _).2 ⟨_,_,rfl,?_,D0 (bi I) _⟩;have bs:xs.flatten=xs.flatten.take (n*sz)++xs.flatten.drop (n*sz):=(List.take_append_drop _ _).symm;rw[bs]at a4;obtain⟨bo,ws,bD,a9,ca⟩:=(gy _ _ _).1 a4;have b1:bo.length=n*sz:=by
     rw[hy _ _ a9,List.length_take,l0 xs aE];exact Nat.min_eq_left (by omega)
    rw[bD,List.take_left' b1];exact a9
   .intro e q;rcases List.mem_append.1 q with q|q
    .exact aE e (List.mem_of_mem_take q)
    .rw[(List.mem_replicate.1 q).2];exact b3
  .by_cases a0:t=t1
   .subst a0;rw[q.1];simp[au]
   by_cases a3:t=t2
   .subst a3;rw[q.2.1];simp[au]
   by_cases aV:t=t3
   .subst aV;rw[q.2.2];simp[au]
   have:C.eval (.tmp t)=a.eval (.tmp t):=by rw[ai,sI (Ne.symm aV),Y,sI (Ne.symm a3),Z,sI (Ne.symm a0)]
   have ao:=ar t
   change au I β (env.get t) (a.eval (.tmp t))at ao
   rw[<-this]at ao;exact ao
 refine wp_region ?_;show wpOps G.P #[o0,X,O,u] _ [0,1,2,3] a w;refine yO (o:=o0) (v:=.slice (some ⟨b,0,none⟩) xs.length aM) (w':=w) rfl aQ.2.2 (by simp only[execOp,aQ.1];simp[bB]) ?_;rw[aQ.2.1,<-Z];have b4:ah.eval (.tmp ab)=.int .i64 n:=by rw[Z,sI a5.2.2.2];exact af
 refine yO (o:=X) (v:=.int .i64 n) (w':=w) rfl aT.2.2 (by simp only[execOp,aT.1];simp[b4]) ?_;rw[aT.2.1,<-Y];refine yO (o:=O) rfl ax.2.2 br ?_;rw[ax.2.1,<-ai];refine yO (o:=u) rfl aD.2.2 bu ?_;rw[aD.2.1];exact⟨env,_,bX,k⟩
end
section
variable {G:bG}{o:Oper}{ev:Operand->H}{σ:U}
def Ei{I:aZ}:∀{xs:List H} {vs:cR} (n:Nat),bJ I xs vs->bJ I (xs.take n) (vs.take n)
 |[],vs,n,h=>by simp only[bJ]at h;subst h;simp[bJ]
 |x::r,vs,0,h=>by simp[bJ]
 |x::r,vs,n+1,h=>by
  simp only[bJ]at h;obtain⟨a,d,rfl,c,b⟩:=h;simp only[List.take_succ_cons,bJ];exact⟨a,_,rfl,c,Ei n b⟩
def D.RJ{T E sz aQ d d2:Nat}{x y:Operand}{xs:List (List H)}{k:IntKind}{n:Int}(h:o.op=.slice T x none (some y) none)(q:ev x=.own d)(ab:ev y=.int k n)(hd:σ.get d=some (.slice aQ sz xs 0 false))(aH:iU G.P T E sz)
  (ah:0<=n/\n<=xs.length) (hi:G.ids.contains d2=false) (a6:(σ.minus [d]).clean [d2].contains=true) :
  eB G o ev σ [d,d2] [d2] (λr S=>r=.own d2/\S=(d2,.slice aQ sz (xs.take n.toNat) 0 false)::σ.minus [d]):=by
 intro cx I β w Z O aw;have C:=aw x (by simp[h,Op.operands]);rw[q]at C;simp only[au]at C;obtain⟨C,aF⟩:=C;have af:=aw y (by simp[h,Op.operands]);rw[ab]at af;have af:=fB af;have aG:bx G cx I β (σ.minus [d]) w:=O.sub λx TK q=>by rw[atE]at q;split at q<;>first|cases q|exact q
 have ax:=O.bO d _ hd;simp only[bc]at ax;have run:∀(a:Option Addr) (c:Nat),Z x=.slice a xs.length c->xs.length<=c->(execOp Z o).run G.P w=.ok (.value (.slice (if c=0 then a else a.map (·.add (0*sz))) n.toNat c)) w:=by
  intro a c ba bj;have X:(Instr.sliceBounds true xs.length c none (some (.int k n)) none).run G.P w=.ok (0,n.toNat,c) w:=by
   have:=run_sliceBound (P:=G.P) (k:=k) (n:=n) (y:=c) (code:=.sliceAcap) (w:=w) ⟨ah.1,by omega⟩;simp[Instr.sliceBounds,this]
  have Y:∀w,(underlying T).run G.P w=.ok (.slice E) w:=λw=>run_underlying aH.en w;simp only[execOp,h,Instr.sliceAt,Instr.slice,ba,Sem.run_bind,Y,Result.andThen_ok,Option.map_some,Option.map_none,af,X,aH.size,Sem.run_pure,Nat.sub_zero]
 have aI:∀(u:Value),(execOp Z o).run G.P w=.ok (.value u) w->fl u=true->(∀b∈cb u,b∈cb (β d))->bc cx I (e4 β d2 u) w d2 (.slice aQ sz (xs.take n.toNat) 0 false)->
   hc G.P (λv w'=>∃(bI:H) (S:U) (aj:aZ) (ar:Nat->Value),(bI=.own d2/\S=(d2,bY.slice aQ sz (xs.take n.toNat) 0 false)::σ.minus [d])/\au aj ar bI v/\bx G cx aj ar S w'/\bQ I aj/\(∀x,x∉[d2]->ar x=β x)/\(∀x,x∉[d,d2]->S.get x=σ.get x)) ((execOp Z o).run G.P w):=by
  intro u a5 ey aE aX;rw[a5];refine⟨.own d2,_,I,e4 β d2 u,⟨rfl,rfl⟩,by simp only[au,eH,ey,and_self],?_,bQ.refl I,λx q=>e0 β u (by simpa using q),λx q=>?_⟩
  .have a9:∀x,[d2].contains x=false->e4 β d2 u x=β x:=λx q=>e0 β u (by simpa using q);refine{aG with bO:=λx TK q=>?_,cq:=λx y q ab aD b=>?_,keep:=λx q=>?_}
   .rw[atw]at q;split at q
    .rename_i e;subst e;cases q;exact aX
    .obtain⟨aV,aW⟩:=atF a6 x TK q;exact(aG.bO x TK q).beta a9 aV aW
   .have ao:∀x,(U.get ((d2,bY.slice aQ sz (xs.take n.toNat) 0 false)::σ.minus [d]) x).isSome->x≠d2->(σ.get x).isSome/\x≠d:=λx q ah=>by
     rw[atw,if_neg (Ne.symm ah),atE]at q;split at q
     .cases q
     .rename_i bh;exact⟨q,by simpa using bh⟩
    by_cases am:x=d2
    .subst am;have Q:y≠x:=λe=>aD e.symm;obtain⟨ai,an⟩:=ao y ab Q;rw[eH,e0 β u Q];intro X Y;exact O.cq y d ai (by rw[hd];rfl) an b Y (aE b X)
    .obtain⟨ai,an⟩:=ao x q am;rw[e0 β u am];by_cases Q:y=d2
     .subst Q;rw[eH];intro X Y;exact O.cq x d ai (by rw[hd];rfl) an b X (aE b Y)
     .obtain⟨t1,t2⟩:=ao y ab Q;rw[e0 β u Q];exact O.cq x y ai t1 aD b
   .have:x≠d2:=λe=>by subst e;rw[<-Bool.not_eq_true]at hi;exact hi (by simpa using q)
    rw[e0 β u this];exact O.keep x q
  .have q:x≠d/\x≠d2:=by simpa using q
   rw[atw,if_neg (Ne.symm q.2),atE,if_neg (by simpa using q.1)]
 rcases ax with aq|⟨aq,rfl,_⟩|⟨b,aM,arr,av,aT,aU,aJ,a1,a0,aC,bo,bl,a3,a4⟩
 .rw[aq]at C;rw[C]at aF;simp[fl]at aF
 .have a7:n=0:=by simp at ah;omega
  subst a7;refine aI _ (run none 0 (by rw[C,aq];rfl) (by simp)) rfl (by simp[cb,bK]) ?_;simp only[bc,eH];exact .inr (.inl ⟨by simp,by simp,trivial⟩)
 .have a8:n.toNat<=xs.length:=by omega
  refine aI _ (run _ aM (by rw[C,av]) aT) rfl ?_ ?_
  .intro bi ae;rw[av];split at ae
   .exact ae
   .simp only[Option.map_some,g5]at ae;exact ae
  .simp only[bc,eH];have ak:(xs.take n.toNat).length=n.toNat:=by simp;omega
   refine .inr (.inr ⟨b,aM,arr,?_,by rw[ak];omega,aU,aJ,a1,?_,λe bb=>aC e (List.mem_of_mem_take bb),Nat.zero_le _,λh=>by simp at h,a3,a4⟩)
   .rw[ak];split<;>simp[g5]
   .rw[ak,za _ _ aC];have:=Ei (n.toNat*sz) a0
    rwa [List.take_take,Nat.min_eq_left (Nat.mul_le_mul_right _ a8)]at this
end
section
variable {P:Program}
def o8(b d2 sz:Nat)(e:List (List H))(ids:cr)(op:Op)(env:ag)(σ:U):Option (b8×b7):=match op with
 |.slice T x none (some y) none=>(match env.cc x with
  |some (.own d)=>(match env.cc y with
   |some (.int k n)=>(match σ.get d with
    |some (.slice c a xs 0 false)=>bif Nat.beq T b&&Nat.beq a sz&&!ids.contains d2&&(σ.minus [d]).clean [d2].contains then some (.e [d,d2] [d2] (.own d2) ((d2,.slice c a e 0 false)::σ.minus [d]),([.bn false xs,.int .i64 n],[]))else none
    |_=>none)
   |_=>none)
  |_=>none)
 |_=>none
variable {N:Nat}{TK:b7}{env:ag}
def Ox{a E d2 sz:Nat}{xs e:List (List H)}{n:Int}(t:iU P a E sz)(l:j4 sz xs 0 n e){o:Oper}{ids:cr}{σ:U}{s:b8}
  (h:o8 a d2 sz e ids o.op env σ=some (s,TK)) (v:TK=([.bn false xs,.int .i64 n],[])):dL ⟨P,N,ids⟩ o env σ s:=by
 cases c:o.op<;>rw[c]at h
 case slice T x lo hi gq=>
  cases lo with
  |some m=>simp only[o8]at h;cases h
  |none=>
  cases hi with
  |none=>simp only[o8]at h;cases h
  |some y=>
  cases gq with
  |some m=>simp only[o8]at h;cases h
  |none=>
   simp only[o8]at h;split at h
   .rename_i C f;split at h
    .rename_i F I g;split at h
     .rename_i B z A u;obtain⟨b,⟨⟩⟩:=dX h;simp only[Bool.and_eq_true,Bool.not_eq_true']at b;obtain⟨⟨⟨k,j⟩,d⟩,r⟩:=b;obtain rfl:=Nat.eq_of_beq_eq_true k;obtain rfl:=Nat.eq_of_beq_eq_true j;cases v;obtain⟨w,i,q⟩:=l;refine⟨?_,by simpa using d⟩;have p:=D.RJ (G:=⟨P,N,ids⟩) (d2:=d2) c (atu f) (atu g) u t ⟨by omega,i.2.2⟩ d r;rw[<-q];simpa using p
     .cases h
    .cases h
   .cases h
 all_goals (simp only[o8]at h;cases h)
def RQ{a E sz:Nat}(d2:Nat){xs b:List (List H)}{n:Int}(d:iU P a E sz)(c:j4 sz xs 0 n b):Hint P:=
 .gs true ([.bn false xs,.int .i64 n],[]) (λids=>o8 a d2 sz b ids) λ_ _ _ _ _ _ _ e f=>Ox d c e f
def Yields.cL{G:bG}{o:Oper}{ev:Operand->H}{σ:U}{cA R:cr}{f:Nat}{l:List H}(h:Yields G o ev σ cA R (.fn f l))(ae:g7 l=true):Yields G o ev σ cA R (.cL f l):=λQ cx I β w S ab Z af X=>by
 have:=h Q cx I β w S ab Z af X;generalize (execOp S o).run G.P w=r at this
 have key:∀v w',(∃q u,au q u (.fn f l) v/\bx G cx q u Q w'/\bQ I q/\(∀d,d∉cA->u d=β d))->∃q u,au q u (.cL f l) v/\bx G cx q u Q w'/\bQ I q/\(∀d,d∉cA->u d=β d):=λv w' ⟨q,u,C,O⟩=>by
  simp only[au]at C;obtain⟨vs,rfl,Y⟩:=C;exact⟨q,u,by simp only[au,aS];exact⟨vs,rfl,zd ae Y⟩,O⟩
 cases r with
 |halt x w'=>exact this.elim
 |ok n w'=>cases n with
  |value v=>exact key _ _ this
  |skip=>exact key _ _ this
  |enter f args=>exact Calls.mono this λe ah ⟨v,C,O⟩=>⟨v,C,key _ _ O⟩
  |_=>exact this.elim
def Bs(op:Op)(env:ag):Option (b8×b7):=match op with
 |.makeFunc (.func f) first aM=>match first.toList with
  |[]=>(match env.iT aM.toList with
   |some l=>bif g7 l then some (.y [] (.cL f l),([],[]))else none
   |_=>none)
  |_=>none
 |_=>none
def Oy{o:Oper}{ids:cr}{σ:U}{s:b8}(h:Bs o.op env=some (s,TK)):dL ⟨P,N,ids⟩ o env σ s:=by
 unfold Bs at h;split at h
 .rename_i f first aM b;split at h
  .rename_i a;split at h
   .rename_i g d;obtain⟨c,⟨⟩⟩:=dX h;have e:first=#[]:=by simpa using congrArg List.toArray a
    subst e;exact Yields.cL (bb.makeFunc b d) c
   .cases h
  .cases h
 .cases h
def RR:Hint P:=.gs false ([],[]) (λ_ b env _=>Bs b env) λ_ _ _ _ _ _ _ a _=>Oy a
end
end
section
def oQ.mono{G:bG}{fn:Func}{Post Y:H->U->Prop}{e:Exit}{env:ag}{σ:U}(h:oQ G fn Post e env σ)(X:∀a s,Post a s->Y a s):oQ G fn Y e env σ:=by
 obtain⟨ab,ae,Z,C⟩:=h;refine⟨ab,ae,Z,?_⟩;cases e with
 |normal=>obtain⟨bN,x,r,Q,S,u,O,q⟩:=C;exact⟨bN,x,r,Q,S,u,O,X _ _ q⟩
 |ret=>obtain⟨bN,x,r,Q,S,u,O,q⟩:=C;exact⟨bN,x,r,Q,S,u,O,X _ _ q⟩
 |_=>exact C
end
end
section
set_option linter.all false
open Go
def D1{I:aZ}:∀{xs:List H} {vs:cR} {i:Nat} {a:H},bJ I xs vs->xs[i]?=some a->∃v,vs[i]?=some v/\aS I a v
 |[],_,_,_,_,h=>by simp at h
 |x::r,vs,i,a,h,b=>by
  simp only[bJ]at h;obtain⟨c,f,rfl,e,d⟩:=h;cases i with
  |zero=>simp only[List.getElem?_cons_zero,Option.some.injEq]at b ⊢;subst b;exact⟨c,rfl,e⟩
  |succ i=>simp only[List.getElem?_cons_succ]at b ⊢;exact D1 d b
def D2{I:aZ}{a:H}{v:Value}(c:aS I a v):∀{xs:List H} {vs:cR} (i:Nat),bJ I xs vs->bJ I (xs.set i a) (vs.set i v)
 |[],vs,i,h=>by simp only[bJ]at h;subst h;simp[bJ]
 |x::r,vs,i,h=>by
  simp only[bJ]at h;obtain⟨e,d,rfl,f,b⟩:=h;cases i with
  |zero=>simp only[List.set_cons_zero,bJ];exact⟨v,d,rfl,c,b⟩
  |succ i=>simp only[List.set_cons_succ,bJ];exact⟨e,_,rfl,f,D2 c i b⟩
variable {I:aZ}{cx:c0}{w:World}
theorem Oz{G:bG}{β:Nat->Value}{σ:U}(c:bx G cx I β σ w){e:Nat}{dj:List eL}(f:σ.get e=some (.cE dj)){a:fz}(b:β e=.tuple a):fE cx I w dj a.toList:=by
 have d:=c.bO e _ f;simp only[bc,b,Value.tuple.injEq,reduceCtorEq,false_or]at d
 grind
section
variable {G:bG}{σ:U}{o:Oper}{ev:Operand->H}
end
section
variable {P:Program}
theorem vu{α:Type}{l:List α}{i:Int}{r:α}(h:b4 l i=some r):0<=i/\i.toNat<l.length/\l[i.toNat]?=some r:=by
 unfold b4 at h
 grind
end
structure eM(n:Nat) where
 l:bR
 h:l.length=n
def eM.zero(n:Nat):eM n:=⟨List.replicate n 0,List.length_replicate⟩
def eM.put{n:Nat}(v:eM n)(i:Nat)(x:Int):eM n:=⟨v.l.set i x,by rw[List.length_set];exact v.h⟩
def jL{σ:U}{d:Nat}{o o0:bY}(h:σ.get d=some o0):(σ.set d o).get d=some o:=by rw[atC,if_pos rfl,h];rfl
def nt{σ:U}{d x:Nat}{o:bY}(h:x≠d):(σ.set d o).get x=σ.get x:=by rw[atC,if_neg h]
def yX{β:Nat->Value}{d T:Nat}{xs:bR}:bc cx I β w d (.vec T xs)↔bc cx I β w d (.cells T (xs.map (H.int .i64))):=by
 simp only[bc];constructor
 .rintro(g|⟨f,e,h,b,c,a⟩)
  .exact .inl g
  .exact .inr ⟨f,e,h,b,by rw[c];exact v2 xs,a⟩
 .rintro(g|⟨f,e,h,b,c,a⟩)
  .exact .inl g
  .exact .inr ⟨f,e,h,b,Ao xs _ c,a⟩
theorem bx.swap{G:bG}{β:Nat->Value}{σ σ2:U}(h:bx G cx I β σ w){d:Nat}{o u:bY}(hd:σ.get d=some o)(Y:σ2.get d=some u)(O:∀x,x≠d->σ2.get x=σ.get x)(S:bc cx I β w d o->bc cx I β w d u):bx G cx I β σ2 w:=by
 have C:∀x,(σ2.get x).isSome->(σ.get x).isSome:=λx q=>by
  by_cases e:x=d
  .grind
  .grind
 refine{h with bO:=λx X q=>?_,cq:=λx y q Q=>h.cq x y (C x q) (C y Q)};by_cases e:x=d
 .subst e;rw[Y]at q;cases q;exact S (h.bO x o hd)
 .rw[O x e]at q;exact h.bO x X q
section
variable {G:bG}{σ:U}{o:Oper}{ev:Operand->H}
def Yields.vec{cA R:cr}{bI:H}{d T:Nat}{xs:bR}(hd:σ.get d=some (.vec T xs))(ai:d∈R)(h:Yields G o ev (σ.set d (.cells T (xs.map (H.int .i64)))) cA R bI):Yields G o ev σ cA R bI:=λO cx I β w Y Z af aj ab=>by
 have Q:O.get d=some (.vec T xs):=by rw[Z d ai];exact hd
 have ah:bx G cx I β (O.set d (.cells T (xs.map (H.int .i64)))) w:=af.swap Q (jL Q) (λx C=>nt C) yX.1
 have:=h (O.set d (.cells T (xs.map (H.int .i64)))) cx I β w Y (λx C=>by
  by_cases e:x=d
  .subst e;rw[jL Q,jL hd]
  .rw[nt e,nt e];exact Z x C) ah aj ab
 generalize (execOp Y o).run G.P w=r at this;have key:∀v w',(∃q u,au q u bI v/\bx G cx q u (O.set d (.cells T (xs.map (H.int .i64)))) w'/\bQ I q/\(∀d,d∉cA->u d=β d))->∃q u,au q u bI v/\bx G cx q u O w'/\bQ I q/\(∀d,d∉cA->u d=β d):=λv w' ⟨q,u,X,S,ae⟩=>⟨q,u,X,S.swap (jL Q) Q (λx C=>(nt C).symm) yX.2,ae⟩;cases r with
 |halt x w'=>exact this.elim
 |ok n w'=>cases n with
  |value v=>exact key _ _ this
  |skip=>exact key _ _ this
  |enter f args=>exact Calls.mono this λe ak ⟨v,X,S⟩=>⟨v,X,key _ _ S⟩
  |_=>exact this.elim
def Yields.arr{cA R:cr}{xs:bR}(h:Yields G o ev σ cA R (.agg (xs.map (H.int .i64)))):Yields G o ev σ cA R (.arr xs):=λO cx I β w S Z Y ab X=>by
 have:=h O cx I β w S Z Y ab X;generalize (execOp S o).run G.P w=r at this;have key:∀v w',(∃q u,au q u (.agg (xs.map (H.int .i64))) v/\bx G cx q u O w'/\bQ I q/\(∀d,d∉cA->u d=β d))->∃q u,au q u (.arr xs) v/\bx G cx q u O w'/\bQ I q/\(∀d,d∉cA->u d=β d):=λv w' ⟨q,u,Q,C⟩=>⟨q,u,Ap.1 Q,C⟩;cases r with
 |halt x w'=>exact this.elim
 |ok n w'=>cases n with
  |value v=>exact key _ _ this
  |skip=>exact key _ _ this
  |enter f args=>exact Calls.mono this λe ae ⟨v,Q,C⟩=>⟨v,Q,key _ _ C⟩
  |_=>exact this.elim
def eB.vec{d T Q:Nat}{xs ys:bR}{iA:H}{M:cr}(ai:M=[d])(hd:σ.get d=some (.vec T xs))
  (h:eB G o ev (σ.set d (.cells T (xs.map (H.int .i64)))) M [] (λr u=>r=iA/\u=(σ.set d (.cells T (xs.map (H.int .i64)))).set d (.cells Q (ys.map (H.int .i64))))) :
  eB G o ev σ M [] (λr u=>r=iA/\u=σ.set d (.vec Q ys)):=λcx I β w Y ah ae=>by
 subst ai;have aj:bx G cx I β (σ.set d (.cells T (xs.map (H.int .i64)))) w:=ah.swap hd (jL hd) (λx O=>nt O) yX.1;have:=h cx I β w Y aj ae
 have conv:∀{q C w'},bx G cx q C ((σ.set d (.cells T (xs.map (H.int .i64)))).set d (.cells Q (ys.map (H.int .i64)))) w'->bx G cx q C (σ.set d (.vec Q ys)) w':=λS=>
  S.swap (d:=d) (jL (jL hd)) (jL hd) (λx O=>by rw[nt O,nt O,nt O]) yX.2
 have ak:∀x,x∉[d]->(σ.set d (.vec Q ys)).get x=σ.get x:=λx O=>nt (by simpa using O);generalize (execOp Y o).run G.P w=r at this
 have key:∀v w',(∃bI u q C,(bI=iA/\u=(σ.set d (.cells T (xs.map (H.int .i64)))).set d (.cells Q (ys.map (H.int .i64))))/\au q C bI v/\bx G cx q C u w'/\bQ I q/\(∀x,x∉([]:cr)->C x=β x)/\(∀x,x∉[d]->u.get x=(σ.set d (.cells T (xs.map (H.int .i64)))).get x))->∃bI u q C,(bI=iA/\u=σ.set d (.vec Q ys))/\au q C bI v/\bx G cx q C u w'/\bQ I q/\(∀x,x∉([]:cr)->C x=β x)/\(∀x,x∉[d]->u.get x=σ.get x):=λv w' ⟨a,u,q,C,⟨am,X⟩,S,af,ab,Z,_⟩=>by
  subst am X;exact⟨a,_,q,C,⟨rfl,rfl⟩,S,conv af,ab,Z,ak⟩
 cases r with
 |halt x w'=>exact this.elim
 |ok n w'=>cases n with
  |value v=>exact key _ _ this
  |skip=>exact key _ _ this
  |enter f args=>exact Calls.mono this λe an ⟨v,X,S⟩=>⟨v,X,key _ _ S⟩
  |_=>exact this.elim
end
section
variable {P:Program}
def yB(T9 d:Nat)(xs:bR)(op:Op)(ids:cr):Option (b8×b7):=match op with
 |.alloc a=>bif Nat.beq a T9&&!ids.contains d then some (.v d (.vec a xs) (.ptr d 0),([],[]))else none
 |_=>none
variable {N T9:Nat}{TK:b7}{env:ag}{xs:bR}
def OA{d:Nat}{b:cR}(i:∀w,∃e,(zeroValue T9).run P w=.ok e w/\e.cells=b.toArray)(g:jb b=xs.map (H.int .i64)){o:Oper}{ids:cr}{σ:U}{s:b8}
  (h:yB T9 d xs o.op ids=some (s,TK)):dL ⟨P,N,ids⟩ o env σ s:=by
 cases c:o.op<;>rw[c]at h
 case alloc T=>
  simp only[yB]at h;obtain⟨a,⟨⟩⟩:=dX h;simp only[Bool.and_eq_true,Bool.not_eq_true']at a;obtain rfl:=Nat.eq_of_beq_eq_true a.1;refine⟨a.2,Yields.vec (T:=T) (xs:=xs) (by rw[atw,if_pos rfl]) (by simp) ?_⟩;refine Yields.HL (σ:=(d,.cells T (jb b))::σ) (λj f=>?_) (bC.alloc c i a.2);rw[List.mem_singleton.1 f,jL (o0:=.vec T xs) (by rw[atw,if_pos rfl]),atw,if_pos rfl,g]
 all_goals (simp only[yB]at h;cases h)
def j8{T9 n:Nat}{b:cR}(d:Nat)(v:eM n)(f:∀w,∃a,(zeroValue T9).run P w=.ok a w/\a.cells=b.toArray)(c:jb b=v.l.map (H.int .i64)):Hint P:=
 .gs false ([],[]) (λids g _ _=>yB T9 d v.l g ids) λ_ _ _ _ _ _ _ e _=>OA f c e
def yC(T9:Nat)(op:Op)(env:ag):Option (b8×b7):=match op with
 |.indexAddr a x y=>(match env.cc x with
  |some (.ptr d off)=>(match env.cc y with
   |some (.int k i)=>bif Nat.beq a T9 then some (.y [] (.ptr d i.toNat),([.ptr 0 off,.int .i64 i],[]))else none
   |_=>none)
  |_=>none)
 |_=>none
variable {Yd:Nat}
def OB{E:Nat}{i:Int}(g:P.underlying T9=some (.array Yd E))(c:∀w,(sizeOf E).run P w=.ok 1 w)(hi:0<=i/\i<Yd){o:Oper}{ids:cr}{σ:U}{s:b8}
  (h:yC T9 o.op env=some (s,TK)) (f:TK=([.ptr 0 0,.int .i64 i],[])):dL ⟨P,N,ids⟩ o env σ s:=by
 cases a:o.op<;>rw[a]at h
 case indexAddr T x y=>
  simp only[yC]at h;split at h
  .rename_i k m b;split at h
   .rename_i l j d;obtain⟨e,⟨⟩⟩:=dX h;obtain rfl:=Nat.eq_of_beq_eq_true e;cases f;have:=avc (G:=⟨P,N,ids⟩) (σ:=σ) a (atu b) (atu d) g c hi;rw[Nat.mul_one,Nat.zero_add]at this;exact this
   .cases h
  .cases h
 all_goals (simp only[yC]at h;cases h)
def BB{T9 Yd E:Nat}{v:eM Yd}{i c:Int}(h:b4 v.l i=some c)(e:P.underlying T9=some (.array Yd E))(a:∀w,(sizeOf E).run P w=.ok 1 w):Hint P:=
 .gs false ([.ptr 0 0,.int .i64 i],[]) (λ_ f env _=>yC T9 f env) λ_ _ _ _ _ _ _ b d=>OB e a (by have:=vu h;have:=v.h;omega) b d
def yD(T9:Nat)(a:H)(op:Op)(env:ag)(σ:U):Option (b8×b7):=match op with
 |.load b x=>(match env.cc x with
  |some (.ptr d p)=>(match σ.get d with
   |some (.vec c xs)=>bif Nat.beq b T9 then some (.y [d] a,([.ptr 0 p],[(0,.vec 0 xs)]))else none
   |_=>none)
  |_=>none)
 |_=>none
variable {p:Nat}
def OC{c:Int}(i:fO P T9 1 false)(b:xs[p]?=some c){o:Oper}{ids:cr}{σ:U}{s:b8}
  (h:yD T9 (.int .i64 c) o.op env σ=some (s,TK)) (k:TK=([.ptr 0 p],[(0,.vec 0 xs)])):dL ⟨P,N,ids⟩ o env σ s:=by
 cases a:o.op<;>rw[a]at h
 case load T x=>
  simp only[yD]at h;split at h
  .rename_i j n e;split at h
   .rename_i g m d;obtain⟨f,⟨⟩⟩:=dX h;obtain rfl:=Nat.eq_of_beq_eq_true f;cases k;refine Yields.vec d (by simp) ?_;have l:=(List.getElem?_eq_some_iff.1 b).1;have:=auj (G:=⟨P,N,ids⟩) (σ:=σ.set j (.cells g (xs.map (H.int .i64)))) a (atu e) (jL d) i rfl (by simp;omega);rw[show hF false 1 ((xs.map (H.int .i64)).drop p)=.int .i64 c by
     simp only[hF,cond_false,<-List.map_drop,List.headD_eq_head?_getD,List.head?_map,List.head?_drop,b];rfl]at this
    exact this
   .cases h
  .cases h
 all_goals (simp only[yD]at h;cases h)
def jH{T9 Yd:Nat}{v:eM Yd}{i c:Int}(h:b4 v.l i=some c)(b:fO P T9 1 false):Hint P:=
 .gs false ([.ptr 0 i.toNat],[(0,.vec 0 v.l)]) (λ_=>yD T9 (.int .i64 c)) λ_ _ _ _ _ _ _ a d=>OC b (vu h).2.2 a d
def yG(T9:Nat)(op:Op)(env:ag)(σ:U):Option (b8×b7):=match op with
 |.load a x=>(match env.cc x with
  |some (.ptr d p)=>(match σ.get d with
   |some (.vec b xs)=>bif Nat.beq a T9 then some (.y [d] (.arr xs),([.ptr 0 p],[(0,.vec 0 xs)]))else none
   |_=>none)
  |_=>none)
 |_=>none
def OD{v:eM Yd}(f:fO P T9 Yd true){o:Oper}{ids:cr}{σ:U}{s:b8}
  (h:yG T9 o.op env σ=some (s,TK)) (i:TK=([.ptr 0 0],[(0,.vec 0 v.l)])):dL ⟨P,N,ids⟩ o env σ s:=by
 cases a:o.op<;>rw[a]at h
 case load T x=>
  simp only[yG]at h;split at h
  .rename_i g k c;split at h
   .rename_i e j b;obtain⟨d,⟨⟩⟩:=dX h;obtain rfl:=Nat.eq_of_beq_eq_true d;cases i;refine Yields.vec b (by simp) (Yields.arr ?_);have:=auj (G:=⟨P,N,ids⟩) (σ:=σ.set g (.cells e (v.l.map (H.int .i64)))) a (atu c) (jL b) f rfl (by simp[v.h]);simp only[hF,cond_true,List.drop_zero]at this;rw[List.take_of_length_le (by simp[v.h])]at this;exact this
   .cases h
  .cases h
 all_goals (simp only[yG]at h;cases h)
def RZ{T9 Yd:Nat}(v:eM Yd)(b:fO P T9 Yd true):Hint P:=
 .gs false ([.ptr 0 0],[(0,.vec 0 v.l)]) (λ_=>yG T9) λ_ _ _ _ _ _ _ a c=>OD b a c
def yE(T9:Nat)(ys:bR)(op:Op)(env:ag)(σ:U):Option (b8×b7):=match op with
 |.store b x y=>(match env.cc x with
  |some (.ptr d p)=>(match env.cc y with
   |some a=>(match σ.get d with
    |some (.vec c xs)=>bif Nat.beq b T9 then some (.e [d] [] .undef (σ.set d (.vec c ys)),([.ptr 0 p,a],[(0,.vec 0 xs)]))else none
    |_=>none)
   |_=>none)
  |_=>none)
 |_=>none
theorem Km{α:Type}{l:List α}{x:α}(h:p<l.length):e3 l p [x]=l.set p x:=by
 apply List.ext_getElem?;intro a;simp only[e3,List.length_singleton,List.getElem?_set]
 grind
def OE{a:Int}(i:fO P T9 1 false)(l:p<xs.length){o:Oper}{ids:cr}{σ:U}{s:b8}
  (h:yE T9 (xs.set p a) o.op env σ=some (s,TK)) (k:TK=([.ptr 0 p,.int .i64 a],[(0,.vec 0 xs)])):dL ⟨P,N,ids⟩ o env σ s:=by
 cases b:o.op<;>rw[b]at h
 case store T x y=>
  simp only[yE]at h;split at h
  .rename_i j q d;split at h
   .rename_i m e;split at h
    .rename_i g n c;obtain⟨f,⟨⟩⟩:=dX h;obtain rfl:=Nat.eq_of_beq_eq_true f;cases k;refine⟨eB.vec rfl c ?_,rfl⟩;have:=auo (G:=⟨P,N,ids⟩) (σ:=σ.set j (.cells g (xs.map (H.int .i64)))) b (atu d) (atu e) (jL c) i.size rfl rfl (by simp;omega);rw[show e3 (xs.map (H.int .i64)) p (g8 (.int .i64 a))=(xs.set p a).map (H.int .i64)by
      rw[show g8 (.int .i64 a)=[.int .i64 a]from rfl,Km (by simp;omega),List.map_set]]at this
     exact this
    .cases h
   .cases h
  .cases h
 all_goals (simp only[yE]at h;cases h)
def RY{T9 Yd:Nat}{v:eM Yd}{i c:Int}(x:Int)(h:b4 v.l i=some c)(b:fO P T9 1 false):Hint P:=
 .gs true ([.ptr 0 i.toNat,.int .i64 x],[(0,.vec 0 v.l)]) (λ_=>yE T9 (v.put i.toNat x).l) λ_ _ _ _ _ _ _ a d=>OE b (vu h).2.1 a d
theorem D.Lb{G:bG}{σ:U}{o:Oper}{ev:Operand->H}{T aQ d n:Nat}{x y:Operand}{cs:List H}(h:o.op=.store T x y)(u:ev x=.ptr d 0)(Q:ev y=.arr xs)(hd:σ.get d=some (.cells aQ cs))(af:∀w,(sizeOf T).run G.P w=.ok n w)(ah:xs.length=n)(aj:cs.length=n):
  eB G o ev σ [d] [] (λr Z=>r=.undef/\Z=σ.set d (.cells aQ (xs.map (H.int .i64)))):=by
 have S:(H.agg (xs.map (H.int .i64))).flat=true:=by
  show(xs.map (H.int .i64)).all H.one=true;rw[List.all_eq_true];intro a ai;obtain⟨x,_,rfl⟩:=List.mem_map.1 ai;rfl
 have ab:(g8 (H.agg (xs.map (H.int .i64)))).length=n:=by simp[g8,ah]
 have X:e3 cs 0 (g8 (H.agg (xs.map (H.int .i64))))=xs.map (H.int .i64):=by
  simp only[e3,g8,List.take_zero,List.nil_append,Nat.zero_add]
  grind
 intro cx I β w C Y O
 letI:DecidableEq Operand:=λ_ _=>Classical.propDecidable _
 let q:Operand->H:=λz=>if z=y then .agg (xs.map (H.int .i64))else ev z
 have ae:x≠y:=λe=>by rw[e,Q]at u;cases u
 have:=auo (G:=G) (σ:=σ) (o:=o) (ev:=q) (aQ:=aQ) h (show q x=.ptr d 0 by simp[q,ae,u]) (show q y=H.agg (xs.map (H.int .i64))by simp[q]) hd af S ab (by omega);rw[X]at this;refine this cx I β w C Y λz hz=>?_;show au I β (if z=y then _ else ev z) (C z);split
 .rename_i e;subst e
  have:=O z hz;rw[Q]at this;exact Ap.2 this
 .exact O z hz
def yF(T9:Nat)(op:Op)(env:ag)(σ:U):Option (b8×b7):=match op with
 |.store b x y=>(match env.cc x with
  |some (.ptr d p)=>(match env.cc y with
   |some (.arr a)=>(match σ.get d with
    |some (.vec c xs)=>bif Nat.beq b T9 then some (.e [d] [] .undef (σ.set d (.vec c a)),([.ptr 0 p,.arr a],[(0,.vec 0 xs)]))else none
    |_=>none)
   |_=>none)
  |_=>none)
 |_=>none
def OF{v a:eM Yd}(g:∀w,(sizeOf T9).run P w=.ok Yd w){o:Oper}{ids:cr}{σ:U}{s:b8}
  (h:yF T9 o.op env σ=some (s,TK)) (i:TK=([.ptr 0 0,.arr a.l],[(0,.vec 0 v.l)])):dL ⟨P,N,ids⟩ o env σ s:=by
 cases b:o.op<;>rw[b]at h
 case store T x y=>
  simp only[yF]at h;split at h
  .rename_i l k d;split at h
   .rename_i m e;split at h
    .rename_i j xs c;obtain⟨f,⟨⟩⟩:=dX h;obtain rfl:=Nat.eq_of_beq_eq_true f;cases i;exact⟨eB.vec rfl c (D.Lb b (atu d) (atu e) (jL c) g a.h (by simp[v.h])),rfl⟩
    .cases h
   .cases h
  .cases h
 all_goals (simp only[yF]at h;cases h)
def Hr{T9 Yd:Nat}(v a:eM Yd)(c:∀w,(sizeOf T9).run P w=.ok Yd w):Hint P:=
 .gs true ([.ptr 0 0,.arr a.l],[(0,.vec 0 v.l)]) (λ_=>yF T9) λ_ _ _ _ _ _ _ b d=>OF c b d
def A.RK{ids:cr}{bm:eb}(W:fe P bm){fn:Func}{e1:ag}{σ s1 σ2:U}{x R:H}{e:Exit}(O:List jg)(S:(match e with|.ret|.normal=>true|_=>false)=true)(X:oU ids O env σ=some (e1,s1))(C:jX ⟨P,N,ids⟩ e1 s1 fn.results.toList x)(u:fk σ2.ids s1 x=some R)(Q:s1.at σ2.ids=some σ2):
  oQ ⟨P,N,ids⟩ fn (λa q=>a=R/\q=σ2) e env σ:=by
 refine⟨e1,s1,vr X,?_⟩;have key:∃bN x r q,jX ⟨P,N,ids⟩ e1 (s1.freeze bN) fn.results.toList x/\eX (s1.freeze bN) x r/\(∀p∈q,(s1.freeze bN).get p.1=some p.2)/\(r=R/\q=σ2):=by
  refine⟨[],x,R,σ2,?_,?_,?_,rfl,rfl⟩
  .rw[at3];exact C
  .rw[at3];exact kk u
  .rw[at3];exact(atP Q).1.mem
 cases e<;>first|exact key|cases S
end
end
section
set_option linter.all false
open Go
section look
variable {P:Program}{I:aZ}{aaM α:Type}{K:TypeId}{agE:aaM->H}{q:aaM->aaM->Bool}{enc:α->H}
end look
section ops
variable {G:bG}{σ:U}{o:Oper}{ev:Operand->H}
end ops
section hints
variable {P:Program}
end hints
def hc.mono{P:Program}{Φ u:Value->World->Prop}{r:Result Next}(h:hc P Φ r)(q:∀v w,Φ v w->u v w):hc P u r:=by
 cases r with
 |ok n w=>
  cases n with
  |value v=>exact q _ _ h
  |skip=>exact q _ _ h
  |enter f args=>exact Calls.mono h λe Q ⟨v,O,C⟩=>⟨v,O,q _ _ C⟩
  |_=>exact h
 |_=>exact h
def eB.AE{G:bG}{o:Oper}{ev:Operand->H}{σ σ2:U}{M news:cr}{r r':H}(h:eB G o ev σ M news (λa q=>a=r/\q=σ2++σ))(ae:fk [] (σ2.freeze σ2.ids) r=some r')(an:σ2.ids.all (λd=>(σ.get d).isNone)=true):
  eB G o ev σ M news (λa q=>a=r'/\q=σ):=by
 intro cx I β w X af Z;refine hc.mono (h cx I β w X af Z) ?_;rintro v w' ⟨bI,q,ar,aq,⟨rfl,rfl⟩,Q,S,Y,O,au⟩;obtain⟨ak,bp,u⟩:=S.yU σ2.ids
 have aj:∀d o,σ.get d=some o->((σ2++σ).freeze σ2.ids).get d=some o:=λd o hd=>by
  have C:d∉σ2.ids:=λao=>by
   have:=List.all_eq_true.1 an d ao;rw[hd]at this;cases this
  rw[atG,atX];have:σ2.get d=none:=by
   cases h:σ2.get d with
   |none=>rfl
   |some x=>
    obtain⟨p,ai,ah,_⟩:=kr σ2 d x h;exact absurd (by rw[<-ah];exact List.mem_map.2 ⟨p,ai,rfl⟩) C
  rw[this];simp[hd,C]
 have am:∀d o,(σ2.freeze σ2.ids).get d=some o->((σ2++σ).freeze σ2.ids).get d=some o:=λd o hd=>by
  rw[atG]at hd ⊢;rw[atX];cases h:σ2.get d with
  |none=>rw[h]at hd;simp at hd
  |some x=>rw[h]at hd;exact hd
 refine⟨r',σ,ak,aq,⟨rfl,rfl⟩,(kk ae).rep (u.sub am) _ (vf bp (eC.refl _) _ _ Q),u.sub aj,λb o v ab=>bp _ _ _ (Y _ _ _ ab),O,λ_ _=>rfl⟩
def xG(ids:cr)(env:ag)(σ:U)(d news:cr)(r r':H)(σ2:U)(op:Op):Option (b8×b7):=match op with
 |.call c=>match oP env c with
  |none=>none
  |some (f,b)=>match σ.at d with
   |none=>none
   |some σs=>match jU (oO 9 σs) b with
    |none=>none
    |some e=>match fk [] (σ2.freeze σ2.ids) r with
     |none=>none
     |some x=>bif news.all (λa=>!ids.contains a&&(σ.get a).isNone)&&σ.clean news.contains&&r.jf&&!r.refs (λa=>!news.contains a)&&σ2.clean (λa=>!news.contains a)&&σ2.ids.all (λa=>(σ.get a).isNone)then some (.e news news r' σ,(.fn f []::x::e,[]))else none
 |_=>none
def OG{P:Program}{N:Nat}{ids:cr}{env:ag}{σ:U}{o:Oper}{C news:cr}{f:FuncId}{σ2:U}{i:List H}{r r':H}(q:cp P f [] i (λa m=>a=r/\m=σ2))(v:be P f)(z:mh σ2){s:b8}{d:b7}(h:xG ids env σ C news r r' σ2 o.op=some (s,d))(F:d=(.fn f []::r'::i,[])):dL ⟨P,N,ids⟩ o env σ s:=by
 cases g:o.op<;>rw[g]at h
 case call c=>
  simp only[xG]at h;split at h
  .cases h
  .rename_i J L B;obtain⟨I,args,M,aM,O,rfl,j,n,rfl⟩:=va B;split at h
   .cases h
   .rename_i x w;split at h
    .cases h
    .rename_i K l;split at h
     .cases h
     .rename_i Q k;obtain⟨e,⟨⟩⟩:=dX h;simp only[Bool.and_eq_true,Bool.not_eq_true']at e;obtain⟨⟨⟨⟨⟨b,p⟩,t⟩,u⟩,y⟩,A⟩:=e;cases F;exact⟨(auM (G:=⟨P,N,ids⟩) (σs:=x) 9 news g j v.h q n l (atP w).1 b p t u y z).AE k A,by rw[List.all_eq_true]at b ⊢;exact λD E=>((Bool.and_eq_true _ _).mp (b D E)).1⟩
 all_goals (simp only[xG]at h;cases h)
def tw{P:Program}(h news:cr){f:FuncId}{b:List H}{r:H}(r':H){σ2:U}(d:cp P f [] b (λa c=>a=r/\c=σ2))(e:be P f)(g:mh σ2):Hint P:=
 .gs true (.fn f []::r'::b,[]) (λids l i σ=>xG ids i σ h news r r' σ2 l) λ_ _ _ _ _ _ _ j k=>OG d e g j k
section many
variable {P:Program}
end many
section made
variable {G:bG}{σ:U}{o:Oper}{ev:Operand->H}
end made
section
variable {P:Program}
end
end
section
set_option linter.all false
open Go
variable {α:Type}{UU l:List (Int×α)}
theorem Kz(h:l.Perm UU)(a:(l.map (·.1)).Nodup)(n:Int):aB UU n=aB l n:=by
 induction h with
 |nil=>rfl
 |cons x _ b=>simp only[gB,b (List.nodup_cons.1 a).2]
 |swap x y l=>
  simp only[List.map_cons,List.nodup_cons,List.mem_cons,not_or]at a;simp only[gB]
  grind
 |trans h1 _ d c=>rw[c ((h1.map _).nodup a),d a]
variable {I:aZ}{enc:α->H}{k:IntKind}
def KA{L g:iq}(h:L.Perm g):∀{l:List (Int×α)},dI I (bo k enc l) L->∃UU,l.Perm UU/\dI I (bo k enc UU) g:=by
 induction h with
 |nil=>exact λ{l} h=>⟨l,.refl _,h⟩
 |cons e _ o=>
  intro l h
  match l with
  |[]=>cases h
  |p::r=>
   simp only[bo,List.map_cons,dI,List.cons.injEq]at h;obtain⟨_,_,⟨rfl,rfl⟩,f,c,d⟩:=h;obtain⟨UU,a,b⟩:=o d;refine⟨p::UU,a.cons p,?_⟩;simp only[bo,List.map_cons,dI];exact⟨_,_,rfl,f,c,b⟩
 |swap x y L=>
  intro l h
  match l with
  |[]=>cases h
  |[p]=>
   simp only[bo,List.map_cons,List.map_nil,dI,List.cons.injEq]at h;obtain⟨_,_,⟨rfl,rfl⟩,_,_,h⟩:=h;cases h
  |p::q::r=>
   simp only[bo,List.map_cons,dI,List.cons.injEq]at h;obtain⟨_,_,⟨rfl,rfl⟩,f,c,_,_,⟨rfl,rfl⟩,d,m,j⟩:=h;refine⟨q::p::r,.swap ..,?_⟩;simp only[bo,List.map_cons,dI];exact⟨_,_,rfl,d,m,_,_,rfl,f,c,j⟩
 |trans _ _ u t=>
  intro l h;obtain⟨v,a,b⟩:=u h;obtain⟨s,n,i⟩:=t b;exact⟨s,a.trans n,i⟩
def C7:((bo k enc l).map Prod.fst).Nodup↔(l.map (·.1)).Nodup:=by
 have:(bo k enc l).map Prod.fst=(l.map (·.1)).map (H.int k):=by simp[bo]
 rw[this];simp only[List.Nodup,List.pairwise_map,ne_eq,H.int.injEq,true_and]
variable {G:bG}{β:Nat->Value}{σ:U}
def KY{cx:c0}{w:World}(i:bx G cx I β σ w){v:Value}(a:au I β (.fH (bo k enc l)) v):∃UU,sx I w v (bo k enc UU)/\∀n,aB UU n=aB l n:=by
 simp only[au,aS]at a;obtain⟨b,p,o,q,rfl,g,h,f,c⟩:=a;obtain⟨r,s,j,m⟩:=i.er b _ g;obtain⟨rfl,rfl⟩:=zn m;obtain⟨UU,d,e⟩:=KA f h;exact⟨UU,⟨b,p,o,rfl,j,e⟩,Kz d (C7.1 c)⟩
variable {o:Oper}
def auY{ev:Operand->H}{T K E:Nat}{x y:Operand}{e:Bool}{n:Int}(l:List (Int×α))(enc:α->H)(b:α)(h:o.op=.lookup T x y e)(i:ev x=.fH (bo k enc l))(j:ev y=.int k n)
  (p:fZ G.P T K E k) (q:∀w,∃v,(zeroValue E).run G.P w=.ok v w/\∀I,aS I (enc b) v) :
  Yields G o ev σ [] [] (bif e then .bP [enc ((aB l n).getD b),.bool (aB l n).isSome]else enc ((aB l n).getD b)):=
 .pure λs u I β w r t m c=>by
  have d:=c x (by simp[h,Op.operands]);rw[i]at d
  have a:=c y (by simp[h,Op.operands]);rw[j]at a;have a:=fB a
  obtain⟨UU,f,g⟩:=KY m d;rw[<-g n];exact yJ UU enc b h f a p q
def xE{α:Type}(c:Nat)(l:List (Int×α))(n:Int)(enc:α->H)(a:α)(op:Op)(env:ag):Option (b8×b7):=match op with
 |.lookup b x y ok=>(match env.cc x with
  |some (.fH e)=>(match env.cc y with
   |some (.int d f)=>bif Nat.beq b c then some (.y [] (bif ok then .bP [enc ((aB l n).getD a),.bool (aB l n).isSome]else enc ((aB l n).getD a)),([.fH e,.int d f],[]))else none
   |_=>none)
  |_=>none)
 |_=>none
variable {P:Program}
def OH{b j e:Nat}{n:Int}{a:α}(m:fZ P b j e k)(q:∀w,∃v,(zeroValue e).run P w=.ok v w/\∀I,aS I (enc a) v){N:Nat}{ids:cr}{env:ag}{s:b8}{c:b7}
  (h:xE b l n enc a o.op env=some (s,c)) (p:c=([.fH (bo k enc l),.int k n],[])):dL ⟨P,N,ids⟩ o env σ s:=by
 cases d:o.op<;>rw[d]at h
 case lookup T x y ok=>
  simp only[xE]at h;split at h
  .rename_i t f;split at h
   .rename_i r u i;obtain⟨g,⟨⟩⟩:=dX h;obtain rfl:=Nat.eq_of_beq_eq_true g;cases p;exact auY l enc a d (atu f) (atu i) m q
   .cases h
  .cases h
 all_goals (simp only[xE]at h;cases h)
def RV{P:Program}{α:Type}{a d b:Nat}{k:IntKind}(l:List (Int×α))(n:Int)(enc:α->H)(c:α)(e:fZ P a d b k)(i:∀w,∃v,(zeroValue b).run P w=.ok v w/\∀I,aS I (enc c) v):Hint P:=
 .gs false ([.fH (bo k enc l),.int k n],[]) (λ_ j f _=>xE a l n enc c j f) λ_ _ _ _ _ _ _ g h=>OH e i g h
open Classical in
noncomputable def vQ{α β:Type}(l:List (Int×α))(B:Int->α->List (Int×β)->Option (List (Int×β))):Option (List (Int×β)):=
 match fL B l []with
 |some r=>if(∀UU:List (Int×α),UU.Perm l->∃a,fL B UU []=some a/\r.Perm a)/\(r.map (·.1)).Nodup then some r else none
 |none=>none
def Ck{β:Type}{B:Int->α->List (Int×β)->Option (List (Int×β))}{r:List (Int×β)}(h:vQ l B=some r):(∀UU:List (Int×α),UU.Perm l->∃r',fL B UU []=some r'/\r.Perm r')/\(r.map (·.1)).Nodup:=by
 unfold vQ at h;split at h
 .split at h
  .rename_i a;cases h;exact a
  .cases h
 .cases h
def Kn(h:UU.Perm l):∀{L:iq},dI I (bo k enc UU) L->∃a,dI I (bo k enc l) a/\a.Perm L:=by
 induction h with
 |nil=>exact λ{L} h=>⟨L,h,.refl _⟩
 |cons p _ s=>
  intro L h;simp only[bo,List.map_cons,dI]at h;obtain⟨b,i,rfl,g,e,f⟩:=h;obtain⟨a,c,d⟩:=s f;refine⟨b::a,?_,d.cons b⟩;simp only[bo,List.map_cons,dI];exact⟨_,_,rfl,g,e,c⟩
 |swap p q r=>
  intro L h;simp only[bo,List.map_cons,dI]at h;obtain⟨b,_,rfl,g,e,t,i,rfl,f,n,m⟩:=h;refine⟨t::b::i,?_,.swap ..⟩;simp only[bo,List.map_cons,dI];exact⟨_,_,rfl,f,n,_,_,rfl,g,e,m⟩
 |trans _ _ v u=>
  intro L h;obtain⟨x,c,d⟩:=v h;obtain⟨w,o,j⟩:=u c;exact⟨w,o,j.trans d⟩
def M4(h:l.Perm UU)(g:(l.map (·.1)).Nodup){v:Value}(a:au I β (.dc (bo k enc UU)) v):au I β (.fH (bo k enc l)) v:=by
 simp only[au,aS]at a ⊢;obtain⟨n,j,i,m,e,f,o⟩:=a;obtain⟨b,c,d⟩:=Kn h.symm f;exact⟨n,j,i,b,m,e,c,d,C7.2 g⟩
def avx{f:FuncId}{b:U}{args:List H}{Post c:H->U->Prop}(h:cp P f b args Post)(k:∀r a,Post r a->∃r',c r' a/\∀I β v,au I β r v->au I β r' v):cp P f b args c:=
 λn s I β q o j=>Calls.mono (h n s I β q o j) λ_ _ ⟨v,p,r,a,g,t,d,e,i⟩=>by
  obtain⟨r',m,l⟩:=k _ _ d;exact⟨v,p,r',a,g,t,m,l _ _ _ e,i⟩
end
section
set_option linter.all false
open Go
variable {Tn vs:cR}
def Aw{sz UL:Nat}:(jw sz UL Tn vs).length=vs.length:=by simp[jw]
def vv{sz UL j:Nat}:(jw sz UL Tn vs)[j]?=vs[j]?.map λv=>if j%sz=UL then Tn.getD (j / sz) v else v:=by simp[jw,List.getElem?_mapIdx]
def wg{sz UL i:Nat}(h:UL<sz):(i*sz+UL)%sz=UL/\(i*sz+UL) / sz=i:=by
 refine⟨by rw[Nat.mul_comm,Nat.mul_add_mod,Nat.mod_eq_of_lt h],?_⟩;rw[Nat.mul_comm,Nat.mul_add_div (by omega),Nat.div_eq_of_lt h];omega
def Gh{sz UL i n:Nat}(h:UL<sz)(hi:i<n):i*sz+UL<n*sz:=by
 have:=Nat.mul_le_mul_right sz (show i+1<=n by omega);rw[Nat.succ_mul]at this;omega
def M5{sz UL i:Nat}(d:UL<sz){v:Value}(hi:i<Tn.length)(c:i*sz+UL<vs.length):jw sz UL (Tn.set i v) vs=(jw sz UL Tn vs).set (i*sz+UL) v:=by
 apply List.ext_getElem?;intro a;rw[vv,List.getElem?_set,vv,Aw];by_cases b:i*sz+UL=a
 .subst b;rw[if_pos rfl,if_pos c,List.getElem?_eq_getElem c];simp[(wg (i:=i) d).1,(wg (i:=i) d).2,List.getD_eq_getElem?_getD,hi]
 .rw[if_neg b];cases h:vs[a]? with
  |none=>rfl
  |some g=>
   simp only[Option.map_some,Option.some.injEq];split
   .rename_i f;have:a / sz≠i:=λe=>b (by have:=Nat.div_add_mod a sz;rw[f,e,Nat.mul_comm]at this;exact this);simp[List.getD_eq_getElem?_getD,List.getElem?_set,Ne.symm this]
   .rfl
def Ej{sz UL:Nat}(j:UL<sz){h:Value}{a:cR}(e:a.length=sz):jw sz UL (h::Tn) (a++vs)=a.set UL h++jw sz UL Tn vs:=by
 apply List.ext_getElem?;intro b;rw[vv];by_cases c:b<sz
 .rw[List.getElem?_append_left (by omega),List.getElem?_append_left (by rw[List.length_set];omega),List.getElem?_set,Nat.mod_eq_of_lt c,Nat.div_eq_of_lt c,List.getElem?_eq_getElem (by omega)];by_cases d:UL=b
  .subst d;simp[e,c]
  .simp[d,Ne.symm d]
 .rw[List.getElem?_append_right (by omega),List.getElem?_append_right (by rw[List.length_set];omega),List.length_set,e,vv];have f:b%sz=(b-sz)%sz:=by rw[<-Nat.mod_eq_sub_mod (by omega)]
  have g:b / sz=(b-sz) / sz+1:=by rw[Nat.div_eq_sub_div (by omega) (by omega)]
  rw[f,g];cases vs[b-sz]? with
  |none=>rfl
  |some i=>simp[List.getD_eq_getElem?_getD]
def Cr{I:aZ}:∀{a b:List H} {vs:cR},bJ I (a++b) vs->∃c v,vs=c++v/\c.length=a.length/\bJ I a c/\bJ I b v
 |[],b,vs,h=>⟨[],vs,rfl,rfl,rfl,h⟩
 |x::r,b,vs,h=>by
  simp only[List.cons_append,bJ]at h;obtain⟨d,k,rfl,j,i⟩:=h;obtain⟨c,v,rfl,e,f,g⟩:=Cr i;exact⟨d::c,v,rfl,by simp[e],by simp only[bJ];exact⟨d,c,rfl,j,f⟩,g⟩
def D3{I:aZ}:∀{a b:List H} {c v:cR},bJ I a c->bJ I b v->bJ I (a++b) (c++v)
 |[],b,c,v,h1,d=>by simp only[bJ]at h1;subst h1;exact d
 |x::r,b,c,v,h1,d=>by
  simp only[List.cons_append,bJ]at h1 ⊢;obtain⟨h,e,rfl,f,g⟩:=h1;exact⟨h,e++v,rfl,f,D3 g d⟩
def Ek{cx:c0}{I f:aZ}{w:World}{α:Type}{T sz UL n:Nat}{enc:α->List H}(h:UL<n)(bp:bQ I f):∀(xs:List (List H)) (l:List (List α)) (Tn vs:cR),xs.length=l.length->(∀e∈xs,e.length=n)->bJ I xs.flatten vs->fE cx I w (encS T sz enc l) Tn->
  (∀b∈Tn.filterMap bK,∀o,f b o=eA w b o)->bJ f (List.zipWith (λe r=>e.set UL (.bn false (r.map enc))) xs l).flatten (jw n UL Tn vs)
 |[],l,Tn,vs,d,_,c,_,_=>by
  simp only[List.flatten_nil,bJ]at c;subst c;simp[bJ,jw]
 |x::xs,[],Tn,vs,d,_,_,_,_=>by simp at d
 |x::xs,r::l,Tn,vs,d,i,c,a,g=>by
  simp only[encS,List.map_cons,fE]at a;obtain⟨y,j,rfl,u,_,q⟩:=a;rw[List.flatten_cons]at c;obtain⟨z,s,rfl,k,m,p⟩:=Cr c;have t:=i x (by simp);rw[Ej h (k.trans t)];simp only[List.zipWith_cons_cons,List.flatten_cons];refine D3 (D2 (gw.bn u bp λb a=>g b (by simp[a])) UL (iI bp _ _ m)) (Ek h bp xs l j s (by simpa using d) (λe v=>i e (by simp[v])) p q λb a=>g b ?_);rw[List.filterMap_cons];split
  .exact a
  .exact List.mem_cons_of_mem _ a
def Fs{G:bG}{cx:c0}{I:aZ}{β:Nat->Value}{σ:U}{w:World}(h:bx G cx I β σ w){d T sz UL e:Nat}{xs:List (List H)}{l:Option (hD×Nat)}{dj:List eL}(v:σ.get d=some (.ew T sz xs UL e l))(x:σ.get e=some (.cE dj))(u:β d≠.nilFunc):
  ∃b aM arr,∃Tn:fz,∃a vs,β d=.slice (some ⟨b,0,none⟩) xs.length aM/\xs.length<=aM/\aM<=maxLen/\w.heap[b]?=some (.cells arr T (0,0))/\arr.size=aM*sz/\β e=.tuple Tn/\Tn.size=xs.length/\mg β Tn.toList a l/\
   (bJ I xs.flatten vs/\(∀e∈xs,e.length=sz)/\arr.toList.take (xs.length*sz)=jw sz UL a vs)/\(∀o:Nat,I b o=none)/\Place cx b/\fE cx I w dj Tn.toList/\dj.length=xs.length/\vs.length=xs.length*sz:=by
 have g:=h.bO d _ v;simp only[bc,u,false_or]at g;obtain⟨b,aM,arr,Tn,a,vs,n,c,p,m,j,i,q,t,k,r,s⟩:=g;have f:=Oz h x i;have y:xs.length*sz<=arr.size:=by rw[j];exact Nat.mul_le_mul_right sz c
 have jH:=congrArg List.length k.2.2;simp only[Aw,List.length_take]at jH;have z:arr.toList.length=arr.size:=rfl;exact⟨b,aM,arr,Tn,a,vs,n,c,p,m,j,i,q,t,k,r,s,f,by have:=f.length;simp at this;omega,by omega⟩
section weak
variable {G:bG}{env:ag}{σ:U}
variable {T sz:Nat}{xs:List (List H)}{α:Type}
theorem avA{d e:Nat}(aQ Vv UL:Nat)(enc:α->List H)(am:UL<sz)(P:xs≠[])(ak:∀a∈xs,a[UL]?=some .az)(s:σ.get d=some (.slice T sz xs 0 false))(ao:σ.get e=none)(hi:G.ids.contains e=false)(i:env.clean [e].contains=true)(Tn:σ.clean [e].contains=true):
  cu G env σ env ((e,.cE (encS aQ Vv enc (List.replicate xs.length [])))::(d,.ew T sz xs UL e none)::σ.minus [d]):=λan n h a av F V=>by
 have gD:d≠e:=λab=>by subst ab;rw[ao]at s;cases s
 have aG:e∉G.ids:=by simpa using hi
 let f:fz:=(List.replicate xs.length (Value.slice none 0 0)).toArray
 refine⟨n,e4 h e (.tuple f),?_,wU V i λb c=>e0 h _ c⟩;have C:e4 h e (.tuple f) e=.tuple f:=eH _ _ _;have ah:e4 h e (.tuple f) d=h d:=e0 h _ gD
 have aI:∀m,m∉cb (Value.tuple f):=λm i=>by
  rw[jl]at i;obtain⟨t,aq,D⟩:=List.mem_filterMap.1 i;have:t=Value.slice none 0 0:=List.eq_of_mem_replicate (show t∈List.replicate xs.length (Value.slice none 0 0)from aq);rw[this]at D;cases D
 have ai:∀b,b∈[d,e]->∀o,U.get ((e,bY.cE (encS aQ Vv enc (List.replicate xs.length [])))::(d,.ew T sz xs UL e none)::σ.minus [d]) b=some o->(b=d/\o=.ew T sz xs UL e none)\/(b=e/\o=.cE (encS aQ Vv enc (List.replicate xs.length []))):=λb c o w=>by
  rw[ms]at w;split at w
  .grind
  .grind
 have aH:∀b,b∈[d,e]->b=d\/b=e:=λb c=>by simpa using c
 have aJ:∀k:Nat,fE an n av (encS aQ Vv enc (List.replicate k [])) (List.replicate k (Value.slice none 0 0)):=by
  intro k;induction k with
  |zero=>rfl
  |succ k l=>
   simp only[List.replicate_succ,encS,List.map_cons,List.map_nil,fE]at l ⊢;exact⟨_,_,rfl,Or.inl ⟨rfl,rfl⟩,λr (Q:none=some r)=>(by cases Q),l⟩
 refine F.sU (M:=[d,e]) (news:=[e]) (λb c=>?_) (λb c=>e0 h _ (by simpa using c)) (λb c=>?_) (λb o _ p=>(atF Tn b o p).2) (λb c o p=>?_) (λb c Z m i=>?_) (λb c aV aT aF aC Z m i aD=>?_)
 .simp only[List.mem_cons,List.not_mem_nil,or_false,not_or]at c;rw[ms,if_neg (Ne.symm c.2),if_neg (Ne.symm c.1),if_neg (by simp[c.1])]
 .grind
 .rcases ai b c o p with⟨rfl,rfl⟩|⟨rfl,rfl⟩
  .have:=F.bO b _ s;simp only[bc,ah,C]at this ⊢;rcases this with J|⟨J,aj,_⟩|⟨r,aM,E,L,N,O,K,W,A,y,ax,aw,X,Y⟩
   .exact .inl J
   .exact absurd aj P
   .refine .inr ⟨r,aM,E,f,f.toList,E.toList.take (xs.length*sz),L,N,O,K,W,rfl,by simp[f],rfl,⟨A,y,?_⟩,λo=>X o (by omega),Y⟩;have au:∀(g:List (List H)) (vs:cR),(∀a∈g,a[UL]?=some H.az)->(∀e∈g,e.length=sz)->bJ n g.flatten vs->jw sz UL (List.replicate g.length (Value.slice none 0 0)) vs=vs:=by
     intro g;induction g with
     |nil=>intro vs _ _ j;simp only[List.flatten_nil,bJ]at j;subst j;rfl
     |cons x g l=>
      intro vs I v j;rw[List.flatten_cons]at j;obtain⟨aE,af,rfl,S,R,ae⟩:=Cr j;rw[List.length_cons,List.replicate_succ,Ej am (S.trans (v x (by simp))),l af (λa q=>I a (by simp[q])) (λa q=>v a (by simp[q])) ae];obtain⟨aU,B,z⟩:=D1 R (I x (by simp));simp only[aS]at z;subst z;congr 1;apply List.ext_getElem?;intro ar;rw[List.getElem?_set];by_cases u:UL=ar
      .subst u;rw[if_pos rfl,B];have:=(List.getElem?_eq_some_iff.1 B).1;simp[this]
      .rw[if_neg u]
    exact(au xs _ ak y A).symm
  .simp only[bc,C]
   grind
 .grind
 .grind
variable {UL Vv aQ:Nat}
def avC{d e e2 t i:Nat}{bN:Bool}(l:List (List α))(enc:α->List H)(row:List α)
  (p:σ.get d=some (.ew T sz xs UL e (some (some i,t)))) (q:σ.get e=some (.cE (encS aQ Vv enc (l.set i [])))) (c:σ.get t=some (.slice aQ Vv (row.map enc) 0 bN))
  (h:σ.get e2=none) (j:G.ids.contains e2=false) (g:env.clean [e2].contains=true) (Tn:σ.clean [e2].contains=true) :
  cu G env σ env ((e2,.cE (encS aQ Vv enc (l.set i row)))::(d,.ew T sz xs UL e2 none)::σ.minus [d,e,t]):=λs b v r u n f=>by
 obtain⟨k,o,a⟩:=n.back p rfl q c h (by simpa using j) Tn;refine⟨b,k,?_,wU f g o⟩;have m:(encS aQ Vv enc (l.set i [])).set i (.sl aQ Vv (row.map enc))=encS aQ Vv enc (l.set i row):=by rw[<-Eh,List.set_set]
 rw[m]at a;exact a
theorem avE{d e:Nat}(l:List (List α))(enc:α->List H)(ao:UL<sz)(y:σ.get d=some (.ew T sz xs UL e none))(q:σ.get e=some (.cE (encS aQ Vv enc l)))(ys:List (List H))(p:ys=List.zipWith (λa r=>a.set UL (.bn false (r.map enc))) xs l):
  cu G env σ env ((d,.slice T sz ys 0 false)::σ.minus [d,e]):=λaq w k a K h R=>by
 have gD:d≠e:=λZ=>by subst Z;rw[y]at q;cases q
 have D:(σ.get d).isSome:=by rw[y];rfl
 have C:(σ.get e).isSome:=by rw[q];rfl
 let s:aZ:=λb o=>if b∈cb (k e)then eA K b o else w b o
 have t:∀b,b∈cb (k e)->∀o,s b o=eA K b o:=λb c o=>if_pos c;have n:∀b,¬(b∈cb (k e))->∀o,s b o=w b o:=λb c o=>if_neg c
 have bp:bQ w s:=λb o m j=>by
  by_cases c:b∈cb (k e)
  .rw[t b c];exact h.AF b o m j
  .rw[n b c];exact j
 have af:∀b,b∈cb (k e)->Place aq b:=λb c=>(h.sK q c).2
 have J:∀f o,U.get ((d,.slice T sz ys 0 false)::σ.minus [d,e]) f=some o->(f=d/\o=.slice T sz ys 0 false)\/(f≠d/\f≠e/\σ.get f=some o):=λf o g=>by
  rw[atw,atE]at g;split at g
  .grind
  .grind
 have E:∀f,(U.get ((d,bY.slice T sz ys 0 false)::σ.minus [d,e]) f).isSome->(σ.get f).isSome:=λf g=>by
  obtain⟨o,g⟩:=Option.isSome_iff_exists.1 g;rcases J f o g with⟨rfl,_⟩|⟨_,_,g⟩
  .exact D
  .rw[g];rfl
 refine⟨s,k,{h with good:=λb o m j=>?_,er:=λb m j=>?_,e8:=h.e8.trans bp,eW:=λb c F o=>?_,bO:=λf o g=>?_,cq:=λf L g p=>h.cq f L (E f g) (E L p)},R.mono bp (eC.refl k)⟩
 .by_cases c:b∈cb (k e)
  .rw[t b c]at j;exact r0 b o m j
  .rw[n b c]at j;exact h.good b o m j
 .by_cases c:b∈cb (k e)
  .rw[t b c]at j;exact rW b m j
  .rw[n b c]at j;exact h.er b m j
 .have:¬(b∈cb (k e)):=λae=>by
   rcases af b ae with v|v
   .omega
   .exact F v
  rw[n b this];exact h.eW b c F o
 .rcases J f o g with⟨rfl,rfl⟩|⟨ax,aj,g⟩
  .by_cases B:k f=.nilFunc
   .simp only[bc];exact .inl B
   obtain⟨b,aM,an,Tn,ah,vs,z,N,O,M,S,P,av,ab,⟨Q,A,X⟩,Y,V,W,ak,_⟩:=Fs h y q B;have ai:xs.length=l.length:=by simpa [encS]using ak.symm
   have am:¬b∈cb (k e):=h.cq f e D C gD b (g4 (by rw[z];rfl));have x:ys.length=xs.length:=by rw[p,List.length_zipWith];omega
   simp only[bc];refine .inr (.inr ⟨b,aM,an,by rw[x];exact z,by rw[x];exact N,O,M,S,?_,λa I=>?_,Nat.zero_le _,(λh=>by cases h),(λo _=>by rw[n b am];exact Y o),V⟩)
   .have:=Ek ao bp xs l Tn.toList vs ai A Q W λb c=>t b (by rw[P,jl];exact c);rw[x,X,show ah=Tn.toList from ab,p];exact this
   .rw[p,List.mem_iff_getElem?]at I;obtain⟨i,u⟩:=I;rw[List.getElem?_zipWith]at u;split at u
    .rename_i aw aC ar au;cases u;rw[List.length_set];exact A _ (List.mem_of_getElem? ar)
    .cases u
  .exact(h.bO f o g).GF bp λb c=>n b λv=>h.cq f e (by rw[g];rfl) C aj b c v
end weak
theorem Ju{arr:cR}{p m:Nat}(a:p<m)(b:m<=arr.length)(v:Value):(e3 arr p [v]).take m=(arr.take m).set p v:=by
 apply List.ext_getElem?;intro i;rw[List.getElem?_take,List.getElem?_set,List.getElem?_take];simp only[e3,List.length_singleton]
 grind
def KB{v:Value}(h:fl v=true):v.oneCell'=true/\v.cells=#[v]:=by
 cases v<;>simp[fl]at h<;>exact⟨rfl,rfl⟩
section
variable {G:bG}{σ:U}{o:Oper}{ev:Operand->H}
variable {T T9 UL sz:Nat}
def avb{E d e:Nat}{xs:List (List H)}{s:Option (hD×Nat)}{x y:Operand}{k:IntKind}{i:Int}(h:o.op=.indexAddr T x y)(n:ev x=.own d)(p:ev y=.int k i)(v:σ.get d=some (.ew T9 sz xs UL e s))(l:iU G.P T E sz)
  (hi:0<=i/\i<xs.length):Yields G o ev σ [] [d] (.ptr d (i.toNat*sz)):=
 .pure λB I z w c A r q g=>by
  have a:=g x (by simp[h,Op.operands]);rw[n]at a
  have b:=g y (by simp[h,Op.operands]);rw[p]at b;have b:=fB b
  simp only[au]at a;obtain⟨a,Tn⟩:=a;have j:=q.bO d _ (by rw[r d (by simp)];exact v);have t:w d≠.nilFunc:=λe=>by rw[a,e]at Tn;simp[fl]at Tn
  simp only[bc,t,false_or]at j;obtain⟨m,aM,F,C,D,vs,f,_⟩:=j;refine⟨.pointer (some ⟨m,i.toNat*sz,none⟩),?_,by simp only[au];exact⟨m,by rw[f];rfl,rfl⟩⟩;have u:∀c,(underlying T).run G.P c=.ok (.slice E) c:=λc=>by simp[underlying,program,Sem.run,l.en]
  rw[f]at a;simp[execOp,h,a,b,Instr.indexAt,asIntOf,u,hi,l.size,g5]
variable {Vv aQ i p t:Nat}
theorem D.Qb{α:Type}{d e e2:Nat}{xs:List (List H)}{x:Operand}(l:List (List α))(enc:α->List H)(row:List α)(h:o.op=.load T x)(an:ev x=.ptr d p)(O:p=i*sz+UL)(Q:UL<sz)(hd:σ.get d=some (.ew T9 sz xs UL e none))(ae:σ.get e=some (.cE (encS aQ Vv enc l)))(Y:l[i]?=some row)(aT:fO G.P T 1 false)
  (ai:σ.get t=none) (aH:σ.get e2=none) (aW:t≠e2) (a0:G.ids.contains t=false) (aJ:G.ids.contains e2=false) (aC:σ.clean [t,e2].contains=true) :
  eB G o ev σ [d,e,e2,t] [t,e2] (λr ar=>r=.own t/\ar=(t,.slice aQ Vv (row.map enc) 0 false)::(e2,.cE (encS aQ Vv enc (l.set i [])))::(d,.ew T9 sz xs UL e2 (some (some i,t)))::σ.minus [d,e]):=by
 intro cx I β w ak X am;have u:=am x (by simp[h,Op.operands]);rw[an]at u
 simp only[au]at u;obtain⟨b,u,ao⟩:=u;have Z:β d≠.nilFunc:=λe=>by rw[e]at u;cases u
 obtain⟨S,aM,arr,Tn,aU,vs,aj,a3,a5,ah,a9,av,a6,aE,⟨a8,a7,aw⟩,bi,ba,bb,aX,bl⟩:=Fs X hd ae Z;have aV:S=b:=by rw[aj]at u;simpa [bK]using u
 subst aV;have bj:i<l.length:=(List.getElem?_eq_some_iff.1 Y).1;have aD:i<xs.length:=by simp[encS]at aX;omega
 have aq:(encS aQ Vv enc l)[i]?=some (.sl aQ Vv (row.map enc)):=by simp[encS,Y]
 obtain⟨bh,dG,q,bE,cn,ki⟩:=X.take hd rfl ae aq Z ai aH aW (by simpa using a0) (by simpa using aJ) aC;rw[av]at dG;cases dG
 have aF:=Gh Q aD;have aG:arr[p]?=some q:=by
  have ab:(arr.toList.take (xs.length*sz))[p]?=some q:=by
   rw[aw,vv,show aU=Tn.toList from aE,O,(wg Q).1,(wg Q).2,List.getElem?_eq_getElem (by omega)];simp only[Option.map_some,Option.some.injEq,List.getD_eq_getElem?_getD,if_true];rw[show Tn.toList[i]?=some q by simpa using bE];rfl
  rw[List.getElem?_take,O,if_pos aF]at ab;rw[O];simpa using ab
 have aI:∀j,j<1->∃v,[q][j]?=some v/\w.cell? ⟨S,p+j,none⟩=some v:=λj a4=>by
  have:j=0:=by omega
  subst this;exact⟨q,rfl,by simp[World.cell?,ah,aG]⟩
 have a1:=B8 aT (vs:=[q]) aI (λ_=>by omega);have ax:(execOp ak o).run G.P w=.ok (.value q) w:=by
  simp[execOp,h,ao,Instr.loadAt,Instr.sureAddr,a1]
 rw[ax];refine⟨.own t,_,I,λy=>if y=t then q else if y=e2 then .tuple (Tn.setIfInBounds i (.slice none 0 0))else β y,⟨rfl,rfl⟩,?_,?_,bQ.refl I,λy C=>?_,λy C=>?_⟩
 .simp only[au,if_true];refine⟨trivial,?_⟩;rcases cn with⟨af,_⟩|⟨b,aM,arr,af,_⟩<;>rw[af]<;>rfl
 .rw[Eh];exact ki
 .grind
 .simp only[List.mem_cons,List.not_mem_nil,or_false,not_or]at C;rw[nG,if_neg (Ne.symm C.2.2.2),if_neg (Ne.symm C.2.2.1),if_neg (Ne.symm C.1),if_neg (by simp[C.1,C.2.1])]
theorem D.Oe{d e j k:Nat}{bN:Bool}{xs a9:List (List H)}{x y:Operand}(h:o.op=.store T x y)(aw:ev x=.ptr d p)(q:ev y=.own j)(ah:p=i*sz+UL)(aq:UL<sz)(ba:σ.get j=some (.slice aQ Vv a9 k bN))(hd:σ.get d=some (.ew T9 sz xs UL e (some (some i,t))))(a5:fO G.P T 1 false):
  eB G o ev σ [d,j] [] (λr aD=>r=.undef/\aD=(d,.ew T9 sz xs UL e (some (some i,j)))::σ.minus [d]):=by
 intro cx I β w ar Q ae;have C:=ae x (by simp[h,Op.operands]);rw[aw]at C
 have O:=ae y (by simp[h,Op.operands]);rw[q]at O
 simp only[au]at C O;obtain⟨b,C,ax⟩:=C;obtain⟨O,Y⟩:=O;have a0:β d≠.nilFunc:=λe=>by rw[e]at C;cases C
 have af:=Q.bO d _ hd;simp only[bc,a0,false_or]at af;obtain⟨u,aM,arr,Tn,bl,vs,Z,ab,av,X,aI,aG,aE,⟨dG,bE,cn⟩,⟨aH,aF,aj⟩,ak,ai⟩:=af;have a6:u=b:=by rw[Z]at C;simpa [bK]using C
 subst a6;have a4:(σ.get d).isSome:=by rw[hd];rfl
 have a7:β j≠.nilFunc:=λe=>by rw[O,e]at Y;simp[fl]at Y
 have ao:(β j).oneCell'=true/\(β j).cells=#[β j]:=KB (by rw[<-O];exact Y);have aW:xs.length*sz<=arr.size:=by rw[aI];exact Nat.mul_le_mul_right sz ab
 have aV:i<xs.length:=by simp at dG;omega
 have aX:p<xs.length*sz:=by rw[ah];exact Gh aq aV
 have jH:=congrArg List.length aj;simp only[Aw,List.length_take]at jH;have bi:arr.toList.length=arr.size:=rfl;have a1:=BW (P:=G.P) X [β j] (off:=p) (by simp;omega) (λv aC=>by rw[List.mem_singleton.1 aC];exact ao.1);have aJ:(execOp ar o).run G.P w=.ok .skip (w.setRow u (e3 arr.toList p [β j]).toArray):=by
  simp[execOp,h,ax,O,Instr.storeAt,Instr.sureAddr,storeVar,a5.size,ao.2,a1]
 rw[aJ];have a8:eD w (w.setRow u (e3 arr.toList p [β j]).toArray) u:=eD.setRow w u _
 have an:∀y,U.get ((d,.ew T9 sz xs UL e (some (some i,j)))::σ.minus [d]) y=if d=y then some (.ew T9 sz xs UL e (some (some i,j)))else σ.get y:=λy=>by
  rw[atw,atE];by_cases q:d=y
  .grind
  .grind
 have am:∀y,y∉[d]->U.get ((d,.ew T9 sz xs UL e (some (some i,j)))::σ.minus [d]) y=σ.get y:=λy q=>by
  rw[an,if_neg λe=>q (by simp[e])]
 refine⟨.undef,_,I,β,⟨rfl,rfl⟩,by simp[au,aS],?_,bQ.refl I,λy q=>rfl,λy q=>am y (by simp only[List.mem_cons,List.not_mem_nil,or_false,not_or]at q ⊢;exact q.1)⟩;refine Q.redo (M:=[d]) (news:=[]) (b:=u) a8 (λo=>?_) (λy q Tn aU=>?_) ai (λy q=>am y q) (λy q=>rfl) (λy q=>by cases q) (λy o _ S=>(atF (auh σ) y o S).2) (λy q o S=>?_) (λy q aT c a3=>?_) (λy q z hz bj bb aT c a3 bh=>?_)
 .cases o with
  |none=>exact Q.k3 X
  |some o=>exact ak o
 .exact Q.cq d y a4 Tn (λe=>q (by simp[e])) u (g4 C) aU
 .simp only[List.mem_singleton]at q;subst q;rw[an,if_pos rfl]at S;cases S;simp only[bc];refine .inr ⟨u,aM,_,Tn,Tn.toList.set i (β j),vs,Z,ab,av,setRow_heap w u arr _ T9 _ X,by simp only[e3,List.size_toArray,List.length_append,List.length_take,List.length_drop,List.length_singleton,Array.length_toList];omega,aG,aE,⟨dG,a7,rfl⟩,⟨aH,aF,?_⟩,ak,ai⟩;rw[Ju aX (by simpa using aW),aj,cn,ah,<-M5 aq (by simpa using dG) (by omega),List.set_set]
 .grind
 .grind
end
section
variable {P:Program}
def yM(T9 sz:Nat)(op:Op)(env:ag)(σ:U):Option (b8×b7):=match op with
 |.indexAddr T x y=>(match env.cc x with
  |some (.own d)=>(match env.cc y with
   |some (.int _ i)=>(match σ.get d with
    |some (.ew _ Vv xs _ _ _)=>bif Nat.beq T T9&&Nat.beq Vv sz then some (.y [d] (.ptr d (i.toNat*sz)),([.int .i64 i,.bn false xs],[]))else none
    |_=>none)
   |_=>none)
  |_=>none)
 |_=>none
variable {E N T9 sz:Nat}{TK:b7}
def Of{i:Int}{xs:List (List H)}(g:iU P T9 E sz)(hi:0<=i/\i<xs.length){o:Oper}{ids:cr}{env:ag}{σ:U}{s:b8}
  (h:yM T9 sz o.op env σ=some (s,TK)) (k:TK=([.int .i64 i,.bn false xs],[])):dL ⟨P,N,ids⟩ o env σ s:=by
 cases a:o.op<;>rw[a]at h
 case indexAddr T x y=>
  simp only[yM]at h;split at h
  .rename_i q c;split at h
   .rename_i t p d;split at h
    .rename_i m Vv n UL r l j;obtain⟨b,⟨⟩⟩:=dX h;simp only[Bool.and_eq_true]at b;obtain⟨e,f⟩:=b;obtain rfl:=Nat.eq_of_beq_eq_true e;obtain rfl:=Nat.eq_of_beq_eq_true f;cases k;exact avb a (atu c) (atu d) j g hi
    .cases h
   .cases h
  .cases h
 all_goals (simp only[yM]at h;cases h)
def Hs{T9 E sz:Nat}(i:Int)(xs:List (List H))(a:iU P T9 E sz)(hi:0<=i/\i<xs.length):Hint P:=
 .gs false ([.int .i64 i,.bn false xs],[]) (λ_=>yM T9 sz) λ_ _ _ _ _ _ _ b c=>Of a hi b c
def xF{α:Type}(T9 aQ Vv e2 t i:Nat)(l:List (List α))(row:List α)(enc:α->List H)(ids:cr)(op:Op)(env:ag)(σ:U):Option (b8×b7):=match op with
 |.load T x=>(match env.cc x with
  |some (.ptr d p)=>(match σ.get d with
   |some (.ew a sz xs UL e none)=>(match σ.get e with
    |some (.cE dj)=>bif Nat.beq T T9&&Nat.blt UL sz&&(σ.get t).isNone&&(σ.get e2).isNone&&!Nat.beq t e2&&!ids.contains t&&!ids.contains e2&&σ.clean [t,e2].contains then
      some (.e [d,e,e2,t] [t,e2] (.own t) ((t,.slice aQ Vv (row.map enc) 0 false)::(e2,.cE (encS aQ Vv enc (l.set i [])))::(d,.ew a sz xs UL e2 (some (some i,t)))::σ.minus [d,e]),([.ptr 0 p,.ptr sz UL],[(1,.cE dj)]))else none
    |_=>none)
   |_=>none)
  |_=>none)
 |_=>none
variable {afn agc i:Nat}
theorem Og{α:Type}{aQ Vv e2 t:Nat}{l:List (List α)}{row:List α}{enc:α->List H}(n:fO P T9 1 false)(hi:l[i]?=some row){o:Oper}{ids:cr}{env:ag}{σ:U}{s:b8}
  (h:xF T9 aQ Vv e2 t i l row enc ids o.op env σ=some (s,TK)) (v:TK=([.ptr 0 (i*agc+afn),.ptr agc afn],[(1,.cE (encS aQ Vv enc l))])):dL ⟨P,N,ids⟩ o env σ s:=by
 cases a:o.op<;>rw[a]at h
 case load T x=>
  simp only[xF]at h;split at h
  .rename_i z p d;split at h
   .rename_i y sz xs UL r u;split at h
    .rename_i dj e;obtain⟨b,⟨⟩⟩:=dX h;simp only[Bool.and_eq_true,Bool.not_eq_true']at b;obtain⟨⟨⟨⟨⟨⟨⟨f,q⟩,g⟩,c⟩,w⟩,j⟩,k⟩,m⟩:=b;obtain rfl:=Nat.eq_of_beq_eq_true f;cases v;refine⟨D.Qb l enc row a (atu d) rfl (Nat.le_of_ble_eq_true q) u e hi n (by simpa using g) (by simpa using c) (λr=>?_) j k m,?_⟩
     all_goals simp_all
    .cases h
   .cases h
  .cases h
 all_goals (simp only[xF]at h;cases h)
def RT{α:Type}{T9:Nat}{l:List (List α)}{i:Nat}{row:List α}(sz UL aQ Vv e2 t:Nat)(enc:α->List H)(a:fO P T9 1 false)(hi:l[i]?=some row):Hint P:=
 .gs true ([.ptr 0 (i*sz+UL),.ptr sz UL],[(1,.cE (encS aQ Vv enc l))]) (xF T9 aQ Vv e2 t i l row enc) λ_ _ _ _ _ _ _ b c=>Og a hi b c
def ym(T9 i:Nat)(op:Op)(env:ag)(σ:U):Option (b8×b7):=match op with
 |.store T x y=>(match env.cc x with
  |some (.ptr d p)=>(match env.cc y with
   |some (.own a)=>(match σ.get a with
    |some (.slice _ _ _ _ _)=>(match σ.get d with
     |some (.ew b sz xs UL e (some (some q,_)))=>bif Nat.beq T T9&&Nat.blt UL sz then
       some (.e [d,a] [] .undef ((d,.ew b sz xs UL e (some (some i,a)))::σ.minus [d]),([.ptr 0 p,.ptr sz UL,.ptr q 0],[]))else none
     |_=>none)
    |_=>none)
   |_=>none)
  |_=>none)
 |_=>none
def Oh(j:fO P T9 1 false){o:Oper}{ids:cr}{env:ag}{σ:U}{s:b8}
  (h:ym T9 i o.op env σ=some (s,TK)) (l:TK=([.ptr 0 (i*agc+afn),.ptr agc afn,.ptr i 0],[])):dL ⟨P,N,ids⟩ o env σ s:=by
 cases a:o.op<;>rw[a]at h
 case store T x y=>
  simp only[ym]at h;split at h
  .rename_i z p d;split at h
   .rename_i B e;split at h
    .rename_i n q v bE w c;split at h
     .rename_i m r u UL A C t k;obtain⟨b,⟨⟩⟩:=dX h;simp only[Bool.and_eq_true]at b;obtain⟨f,g⟩:=b;obtain rfl:=Nat.eq_of_beq_eq_true f;cases l;exact⟨D.Oe a (atu d) (atu e) rfl (Nat.le_of_ble_eq_true g) c k j,by simp⟩
     .cases h
    .cases h
   .cases h
  .cases h
 all_goals (simp only[ym]at h;cases h)
def RX{T9:Nat}(sz UL i:Nat)(a:fO P T9 1 false):Hint P:=.gs true ([.ptr 0 (i*sz+UL),.ptr sz UL,.ptr i 0],[]) (λ_=>ym T9 i) λ_ _ _ _ _ _ _ b c=>Oh a b c
def w5(T9 sz:Nat)(op:Op)(env:ag):Option (b8×b7):=match op with
 |.buildSlice T len parts=>bif Nat.beq T T9&&(Nat.beq parts.size len&&(Nat.ble (len*sz) 65536&&Nat.ble len 65536))then(match env.lz parts.toList with
  |none=>none
  |some a=>match m7 sz 0 a with
   |none=>none
   |some xs=>bif g7 xs.flatten then some (.y [] (.bn true xs),([],[]))else none)else none
 |_=>none
def Oi{l:cR}(k:o2 P T9 E sz l){o:Oper}{ids:cr}{env:ag}{σ:U}{s:b8}(h:w5 T9 sz o.op env=some (s,TK)):dL ⟨P,N,ids⟩ o env σ s:=by
 cases b:o.op<;>rw[b]at h
 case buildSlice T len parts=>
  simp only[w5]at h
  replace h:=dX h
  obtain⟨a,h⟩:=h;simp only[Bool.and_eq_true]at a;obtain⟨f,e,g,i⟩:=a;obtain rfl:=Nat.eq_of_beq_eq_true f;split at h
  .cases h
  .rename_i m d;split at h
   .cases h
   .rename_i xs c;obtain⟨j,⟨⟩⟩:=dX h;exact bC.buildSlice b k (by simpa using e) ⟨Nat.le_of_ble_eq_true g,Nat.le_of_ble_eq_true i⟩ (by rw[at0 d];exact uP _ c) j
 all_goals (simp only[w5]at h;cases h)
def Ho{T9 E sz:Nat}{d:cR}(a:o2 P T9 E sz d):Hint P:=.gs false ([],[]) (λ_ c env _=>w5 T9 sz c env) λ_ _ _ _ _ _ _ b _=>Oi a b
end
end
section
set_option linter.all false
open Go
def Jp:TypeDesc->Bool
 |.struct _=>true
 |.array _ _=>true
 |_=>false
def pY(P:Program)(T:Nat):Option (Nat×Bool):=match P.info? T,P.underlying T with
 |some i,some d=>some (i.size,Jp d)
 |_,_=>none
variable {P:Program}{T:Nat}
def AA{i:TypeInfo}(h:P.info? T=some i)(w:World):(sizeOf T).run P w=.ok i.size w:=by
 simp[sizeOf,typeInfo,program,Sem.run,h]
def wh{n:Nat}{bU:Bool}(h:pY P T=some (n,bU)):fO P T n bU:=by
 unfold pY at h;split at h
 .rename_i d a c b;simp only[Option.some.injEq,Prod.mk.injEq]at h;obtain⟨rfl,rfl⟩:=h;refine⟨AA c,λe=>?_⟩;simp only[isAgg,Sem.run_bind,run_underlying b,Result.andThen_ok];cases a<;>rfl
 .cases h
def vx(P:Program)(T:Nat):Option Value:=match P.info? T with
 |some i=>i.zero
 |none=>none
def AB{a:Value}(h:vx P T=some a)(w:World):(zeroValue T).run P w=.ok a w:=by
 unfold vx at h;split at h
 .rename_i c b;simp[zeroValue,typeInfo,program,Sem.run,b,h]
 .cases h
def ob(P:Program):List Field->Option (List (Nat×Nat))
 |[]=>some []
 |f::r=>match pY P f.type,ob P r with
  |some (n+1,_),some l=>some ((f.offset,n+1)::l)
  |_,_=>none
def wW(P:Program):List Field->Option (List Bool)
 |[]=>some []
 |f::r=>match pY P f.type,wW P r with
  |some (n,a),some l=>bif a||Nat.beq n 1 then some (a::l)else none
  |_,_=>none
def BJ(P:Program)(T:Nat)(k:sA):Option sA:=match k,P.underlying T with
 |.fN,_=>some .fN
 |.int _,some (.int k)=>some (.int k)
 |.bool,some .bool=>some .bool
 |.str,some .string=>some .str
 |.slice _ _ _ _,some (.slice E)=>(match P.info? E with
  |some e=>(match e.zero with
   |some z=>bif Nat.beq z.cells.size e.size&&Nat.blt 0 e.size then some (.slice E e.size e.bytes z.cells.toList)else none
   |none=>none)
  |none=>none)
 |.map _ _ _,some (.map K E)=>(match P.underlying K with|some (.int k)=>some (.map K E k)|_=>none)
 |.struct _ _ c,some (.struct b)=>(match vx P T,ob P b.toList,(bif c.isEmpty then some []else wW P b.toList)with
  |some (.agg cs),some d,some a=>some (.struct cs.toList d a)
  |_,_,_=>none)
 |_,_=>none
def Ft{P:Program}:∀{fs:List Field} {a:List (Nat×Nat)},ob P fs=some a->∀w,(fs.mapM λf=>do pure (f.offset,<-sizeOf f.type):Sem (List (Nat×Nat))).run P w=.ok a w
 |[],a,h,w=>by simp only[ob,Option.some.injEq]at h;subst h;rfl
 |f::r,a,h,w=>by
  simp only[ob]at h;split at h
  .rename_i g d e c b;simp only[Option.some.injEq]at h;subst h
   simp only[List.mapM_cons,Sem.run_bind,(wh c).size,Result.andThen_ok,Ft b,Sem.run_pure]
  .cases h
def AD{P:Program}:∀{fs:List Field} {b:List (Nat×Nat)} {f off sz:Nat},ob P fs=some b->b[f]?=some (off,sz)->∃g bU,fs[f]?=some g/\g.offset=off/\pY P g.type=some (sz,bU)/\sz≠0
 |[],b,f,off,sz,h,a=>by simp only[ob,Option.some.injEq]at h;subst h;simp at a
 |g::r,b,f,off,sz,h,a=>by
  simp only[ob]at h;split at h
  .rename_i i bU e d c;simp only[Option.some.injEq]at h;subst h
   cases f with
   |zero=>simp at a;exact⟨g,bU,rfl,a.1,by rw[<-a.2];exact d,by omega⟩
   |succ f=>exact AD (fs:=r) c (by simpa using a)
  .cases h
def Fu{P:Program}:∀{fs:List Field} {a:List Bool} {f:Nat} {bU:Bool} {g:Field},wW P fs=some a->a[f]?=some bU->fs[f]?=some g->∃n,pY P g.type=some (n,bU)/\(bU=false->n=1)
 |[],a,f,bU,g,h,c,b=>by simp at b
 |g::r,a,f,bU,l,h,c,b=>by
  simp only[wW]at h;split at h
  .rename_i n i m k e;cases d:(i||Nat.beq n 1)<;>rw[d]at h
   .cases h
   simp only[cond_true,Option.some.injEq]at h;subst h
   cases f with
   |zero=>simp at c b;subst c b;exact⟨n,k,λj=>by subst j;simpa using d⟩
   |succ f=>exact Fu (fs:=r) e (by simpa using c) (by simpa using b)
  .cases h
theorem Oj{k:sA}(h:BJ P T k=some k):gU P T k:=by
 unfold BJ at h;split at h
 .exact trivial
 .rename_i b;cases h;exact b
 .rename_i b;exact b
 .rename_i b;exact b
 .rename_i s b;split at h
  .rename_i i d;split at h
   .rename_i n j;cases e:(Nat.beq n.cells.size i.size&&Nat.blt 0 i.size)<;>rw[e]at h
    .cases h
    simp only[Bool.and_eq_true,Nat.beq_eq]at e;have w:0<i.size:=Nat.le_of_ble_eq_true e.2;cases h;exact⟨⟨b,AA d⟩,⟨b,⟨i,n,d,j,rfl,rfl,e.1⟩,w⟩,b,AA d,λf=>⟨n,AB (by simp[vx,d,j]) f,rfl⟩,by simpa using e.1⟩
   .cases h
  .cases h
 .rename_i C s b;split at h
  .rename_i k c;cases h;exact⟨b,c⟩
  .cases h
 .rename_i J G q H b;split at h
  .rename_i F E a j m r;cases h;refine⟨SH (λf=>by simpa using AB j f) b λf=>?_,λx z B l=>⟨λA f=>?_⟩,λx z B v l t=>?_⟩
   .rw[Array.mapM_eq_mapM_toList,Sem.run_map,Ft m];rfl
   .obtain⟨y,v,c,rfl,g,o⟩:=AD m l;simp only[Instr.fieldAt,Instr.sureAddr,fieldPlace,Sem.run_bind,run_underlying b,Result.andThen_ok,Array.getElem?_toList.symm,c,Sem.run_pure,(wh g).size];simp[o]
   .obtain⟨y,D,c,rfl,g,o⟩:=AD m l;cases d:q.isEmpty<;>rw[d]at r
    .obtain⟨I,p,u⟩:=Fu (a:=q) (by simpa using r) t c;rw[g]at p;cases p
     exact OL b (by rw[<-Array.getElem?_toList,c];rfl) (wh g) u
    .grind
  .cases h
 .cases h
def B1(P:Program)(T:Nat)(i:nB):Option nB:=match pY P T,BJ P T i.kd,(match i.zs with|none=>some none|some _=>(match vx P T with|some z=>some (some z.cells.toList)|none=>none))with
 |some (n,a),some k,some b=>some ⟨n,a,b,k⟩
 |_,_,_=>none
def Ol{i:nB}(h:B1 P T i=some i):wL P T i:=by
 unfold B1 at h;split at h
 .rename_i m k l n d c a;cases h;refine⟨wh d,λj b f=>?_,Oj c⟩;simp only at a b;subst b
  simp only at a;split at a
  .rename_i g e;exact⟨g,AB e f,by simp only[Option.some.injEq]at a;rw[<-a]⟩
  .cases a
 .cases h
def Gi{P:Program}:∀{bm:eb},(bm.map λp=>B1 P p.1 p.2)=bm.map (λp=>some p.2)->e9 P bm
 |[],_=>trivial
 |(k,v)::r,h=>by
  simp only[List.map_cons,List.cons.injEq]at h;exact⟨Ol h.1,Gi h.2⟩
def fe.ty{bm:eb}(W:fe P bm){i:nB}(h:bm.get T=some i):wL P T i:=W.tys.get h
end
section
open Go Go.Proofs.Tryz
set_option maxRecDepth 100000
set_option linter.all false
structure bk where
 aP:Int
 bw:Bool
instance:Inhabited bk:=⟨bk.mk (0:Int) false⟩
def bz:eT bk:=⟨λa=>[.int .i64 a.aP,.bool a.bw],2,λ_=>rfl,λ_=>rfl,λ_=>rfl⟩
structure aR where
 A:Int
 B:Int
 gn:Int
 gd:Int
 dW:Int
instance:Inhabited aR:=⟨aR.mk (0:Int) (0:Int) (0:Int) (0:Int) (0:Int)⟩
def aD:eT aR:=⟨λa=>[.int .i64 a.A,.int .i64 a.B,.int .i64 a.gn,.int .i64 a.gd,.int .i64 a.dW],5,λ_=>rfl,λ_=>rfl,λ_=>rfl⟩
structure aK where
 aL:List bk
 Links:List aR
instance:Inhabited aK:=⟨aK.mk [] []⟩
structure bH where
 L:List Int
 At:Int
instance:Inhabited bH:=⟨bH.mk [] (0:Int)⟩
structure gJ where
 c4:Int
 bW:Int
instance:Inhabited gJ:=⟨gJ.mk (0:Int) (0:Int)⟩
def gP:eT gJ:=⟨λa=>[.int .i64 a.c4,.int .i64 a.bW],2,λ_=>rfl,λ_=>rfl,λ_=>rfl⟩
def sv(a b:gJ):Bool:=decide (a.c4=b.c4)&&(decide (a.bW=b.bW)&&true)
structure gC where
 Links:List gJ
 aL:List Int
instance:Inhabited gC:=⟨gC.mk [] []⟩
structure cV where
 dy:Int
 ig:Int
 dW:Int
instance:Inhabited cV:=⟨cV.mk (0:Int) (0:Int) (0:Int)⟩
def dg:eT cV:=⟨λa=>[.int .i64 a.dy,.int .i64 a.ig,.int .i64 a.dW],3,λ_=>rfl,λ_=>rfl,λ_=>rfl⟩
def oc(a b:cV):Bool:=decide (a.dy=b.dy)&&(decide (a.ig=b.ig)&&(decide (a.dW=b.dW)&&true))
structure dA where
 cg:Int
 aP:Int
 Length:Int
instance:Inhabited dA:=⟨dA.mk (0:Int) (0:Int) (0:Int)⟩
def c8:eT dA:=⟨λa=>[.int .i64 a.cg,.int .i64 a.aP,.int .i64 a.Length],3,λ_=>rfl,λ_=>rfl,λ_=>rfl⟩
def od(a b:dA):Bool:=decide (a.cg=b.cg)&&(decide (a.aP=b.aP)&&(decide (a.Length=b.Length)&&true))
structure aO where
 Router:Int
 Seq:Int
 bw:Bool
 Links:List cV
 Claims:List dA
instance:Inhabited aO:=⟨aO.mk (0:Int) (0:Int) false [] []⟩
def cm:eT aO:=⟨λa=>[.int .i64 a.Router,.int .i64 a.Seq,.bool a.bw,.bn false (af dg a.Links),.bn false (af c8 a.Claims)],5,λ_=>rfl,λ_=>rfl,λ_=>rfl⟩
structure bF where
 bf:List aO
instance:Inhabited bF:=⟨bF.mk []⟩
structure bS where
 c4:Int
 bW:Int
 Database:bF
instance:Inhabited bS:=⟨bS.mk (0:Int) (0:Int) (bF.mk [])⟩
def bT:eT bS:=⟨λa=>[.int .i64 a.c4,.int .i64 a.bW,.bn false (af cm a.Database.bf)],3,λ_=>rfl,λ_=>rfl,λ_=>rfl⟩
structure a2 where
 Router:Int
 Seq:Int
 bw:Bool
 Claims:List dA
 Database:bF
instance:Inhabited a2:=⟨a2.mk (0:Int) (0:Int) false [] (bF.mk [])⟩
def bA:eT a2:=⟨λa=>[.int .i64 a.Router,.int .i64 a.Seq,.bool a.bw,.bn false (af c8 a.Claims),.bn false (af cm a.Database.bf)],5,λ_=>rfl,λ_=>rfl,λ_=>rfl⟩
structure bZ where
 Router:Int
 Claim:dA
instance:Inhabited bZ:=⟨bZ.mk (0:Int) (dA.mk (0:Int) (0:Int) (0:Int))⟩
def c1:eT bZ:=⟨λa=>[.int .i64 a.Router,.int .i64 a.Claim.cg,.int .i64 a.Claim.aP,.int .i64 a.Claim.Length],4,λ_=>rfl,λ_=>rfl,λ_=>rfl⟩
structure cF where
 Router:Int
 aP:Int
instance:Inhabited cF:=⟨cF.mk (0:Int) (0:Int)⟩
def eu:eT cF:=⟨λa=>[.int .i64 a.Router,.int .i64 a.aP],2,λ_=>rfl,λ_=>rfl,λ_=>rfl⟩
structure cB where
 dx:Int
 fC:Int
instance:Inhabited cB:=⟨cB.mk (0:Int) (0:Int)⟩
def cy:eT cB:=⟨λa=>[.int .i64 a.dx,.int .i64 a.fC],2,λ_=>rfl,λ_=>rfl,λ_=>rfl⟩
structure fF where
 aP:Int
 Next:List Int
instance:Inhabited fF:=⟨fF.mk (0:Int) []⟩
def fD:eT fF:=⟨λa=>[.int .i64 a.aP,.bn false (af aW a.Next)],2,λ_=>rfl,λ_=>rfl,λ_=>rfl⟩
structure dT where
 Data:List Int
 Bits:Int
instance:Inhabited dT:=⟨dT.mk [] (0:Int)⟩
structure fP where
 ef:dT
instance:Inhabited fP:=⟨fP.mk (dT.mk [] (0:Int))⟩
structure aA where
 Links:List aR
 ay:List a2
 aY:List bS
instance:Inhabited aA:=⟨aA.mk [] [] []⟩
structure cM where
 bg:aA
instance:Inhabited cM:=⟨cM.mk (aA.mk [] [] [])⟩
structure kY where
 gY:List (Int×List cB)
 jm:List (Int×List cB)
instance:Inhabited kY:=⟨kY.mk [] []⟩
structure eE where
 cg:Int
 Length:Int
 c9:List cF
instance:Inhabited eE:=⟨eE.mk (0:Int) (0:Int) []⟩
structure dh where
 Router:Int
 cg:Int
 Length:Int
 Rows:List fF
instance:Inhabited dh:=⟨dh.mk (0:Int) (0:Int) (0:Int) []⟩
def gm:eT dh:=⟨λa=>[.int .i64 a.Router,.int .i64 a.cg,.int .i64 a.Length,.bn false (af fD a.Rows)],4,λ_=>rfl,λ_=>rfl,λ_=>rfl⟩
def bm:eb:=[(1,⟨1,false,some [.nilFunc],.fN⟩),(2,⟨1,false,some [zI0],.int .i64⟩),(3,⟨1,false,some [zI0],.int .i64⟩),(4,⟨1,false,some [.bool false],.bool⟩),(5,⟨1,false,some [.int .u8 0],.int .u8⟩),(6,⟨1,false,some [.int .u8 0],.int .u8⟩),(7,⟨4,true,some [zI0,zI0,.bool false,.int .u8 0],.struct [zI0,zI0,.bool false,.int .u8 0] [(0,1),(1,1),(2,1),(3,1)] [false,false,false,false]⟩),(8,⟨4,true,some [zI0,zI0,.bool false,.int .u8 0],.struct [zI0,zI0,.bool false,.int .u8 0] [(0,1),(1,1),(2,1),(3,1)] [false,false,false,false]⟩),(9,⟨1,false,some [.string ⟨#[]⟩],.str⟩),(10,⟨1,false,some [.string ⟨#[]⟩],.str⟩),(11,⟨1,false,some [.string ⟨#[]⟩],.str⟩),(12,⟨1,false,some [.int .u64 0],.int .u64⟩),(13,⟨2,true,some [.string ⟨#[]⟩,.int .u64 0],.struct [.string ⟨#[]⟩,.int .u64 0] [(0,1),(1,1)] [false,false]⟩),(14,⟨2,true,some [.string ⟨#[]⟩,.int .u64 0],.struct [.string ⟨#[]⟩,.int .u64 0] [(0,1),(1,1)] [false,false]⟩),(15,⟨1,false,some [.pointer none],.fN⟩),(16,⟨1,false,some [.pointer none],.fN⟩),(17,⟨1,false,some [.pointer none],.fN⟩),(18,⟨1,true,some [.pointer none],.struct [.pointer none] [(0,1)] [false]⟩),(19,⟨1,true,some [.pointer none],.struct [.pointer none] [(0,1)] [false]⟩),(21,⟨1,false,some [.int .i32 0],.int .i32⟩),(22,⟨1,false,some [zS0],.slice 3 1 8 [zI0]⟩),(23,⟨1,false,some [.pointer none],.fN⟩),(25,⟨1,false,some [zS0],.slice 101 5 40 [zI0,zI0,zI0,zI0,zI0]⟩),(26,⟨1,false,some [zS0],.slice 37 5 72 [zI0,zI0,.bool false,zS0,zS0]⟩),(27,⟨1,false,some [zS0],.slice 120 3 40 [zI0,zI0,zS0]⟩),(28,⟨3,true,some [zS0,zS0,zS0],.struct [zS0,zS0,zS0] [(0,1),(1,1),(2,1)] [false,false,false]⟩),(29,⟨3,true,some [zS0,zS0,zS0],.struct [zS0,zS0,zS0] [(0,1),(1,1),(2,1)] [false,false,false]⟩),(32,⟨1,false,some [zS0],.slice 103 3 24 [zI0,zI0,zI0]⟩),(33,⟨1,false,some [zS0],.slice 109 5 72 [zI0,zI0,.bool false,zS0,zS0]⟩),(34,⟨1,true,some [zS0],.struct [zS0] [(0,1)] [false]⟩),(35,⟨1,true,some [zS0],.struct [zS0] [(0,1)] [false]⟩),(36,⟨5,true,some [zI0,zI0,.bool false,zS0,zS0],.struct [zI0,zI0,.bool false,zS0,zS0] [(0,1),(1,1),(2,1),(3,1),(4,1)] [false,false,false,false,true]⟩),(37,⟨5,true,some [zI0,zI0,.bool false,zS0,zS0],.struct [zI0,zI0,.bool false,zS0,zS0] [(0,1),(1,1),(2,1),(3,1),(4,1)] [false,false,false,false,true]⟩),(39,⟨1,false,some [zS0],.slice 79 2 16 [zI0,.bool false]⟩),(40,⟨2,true,some [zS0,zS0],.struct [zS0,zS0] [(0,1),(1,1)] [false,false]⟩),(41,⟨2,true,some [zS0,zS0],.struct [zS0,zS0] [(0,1),(1,1)] [false,false]⟩),(42,⟨1,false,some [zS0],.slice 166 2 16 [zI0,zI0]⟩),(44,⟨3,true,some [zI0,zI0,zS0],.struct [zI0,zI0,zS0] [(0,1),(1,1),(2,1)] [false,false,false]⟩),(45,⟨1,false,some [zS0],.slice 56 4 48 [zI0,zI0,zI0,zS0]⟩),(48,⟨1,false,some [zI0],.int .i64⟩),(54,⟨1,false,some [zS0],.slice 97 2 32 [zI0,zS0]⟩),(56,⟨4,true,some [zI0,zI0,zI0,zS0],.struct [zI0,zI0,zI0,zS0] [(0,1),(1,1),(2,1),(3,1)] [false,false,false,false]⟩),(63,⟨1,false,some [zS0],.slice 130 2 16 [zI0,zI0]⟩),(65,⟨2,true,some [zS0,zS0],.struct [zS0,zS0] [(0,1),(1,1)] [false,false]⟩),(73,⟨2,true,some [zS0,zI0],.struct [zS0,zI0] [(0,1),(1,1)] [false,false]⟩),(76,⟨1,false,some [zS0],.slice 105 4 32 [zI0,zI0,zI0,zI0]⟩),(79,⟨2,true,some [zI0,.bool false],.struct [zI0,.bool false] [(0,1),(1,1)] [false,false]⟩),(97,⟨2,true,some [zI0,zS0],.struct [zI0,zS0] [(0,1),(1,1)] [false,false]⟩),(99,⟨1,false,some [.nilFunc],.fN⟩),(101,⟨5,true,some [zI0,zI0,zI0,zI0,zI0],.struct [zI0,zI0,zI0,zI0,zI0] [(0,1),(1,1),(2,1),(3,1),(4,1)] [false,false,false,false,false]⟩),(103,⟨3,true,some [zI0,zI0,zI0],.struct [zI0,zI0,zI0] [(0,1),(1,1),(2,1)] [false,false,false]⟩),(105,⟨4,true,some [zI0,zI0,zI0,zI0],.struct [zI0,zI0,zI0,zI0] [(0,1),(1,3)] [false,true]⟩),(107,⟨1,false,some [zS0],.slice 152 3 24 [zI0,zI0,zI0]⟩),(108,⟨5,true,some [zI0,zI0,.bool false,zS0,zS0],.struct [zI0,zI0,.bool false,zS0,zS0] [(0,1),(1,1),(2,1),(3,1),(4,1)] [false,false,false,false,false]⟩),(109,⟨5,true,some [zI0,zI0,.bool false,zS0,zS0],.struct [zI0,zI0,.bool false,zS0,zS0] [(0,1),(1,1),(2,1),(3,1),(4,1)] [false,false,false,false,false]⟩),(113,⟨1,false,some [.pointer none],.fN⟩),(116,⟨3,true,some [zS0,zS0,zS0],.struct [zS0,zS0,zS0] [(0,3)] [true]⟩),(120,⟨3,true,some [zI0,zI0,zS0],.struct [zI0,zI0,zS0] [(0,1),(1,1),(2,1)] [false,false,true]⟩),(123,⟨1,false,some [.nilFunc],.fN⟩),(124,⟨1,false,some [.pointer none],.fN⟩),(126,⟨1,false,some [.nilFunc],.fN⟩),(127,⟨1,false,some [.nilFunc],.fN⟩),(130,⟨2,true,some [zI0,zI0],.struct [zI0,zI0] [(0,1),(1,1)] [false,false]⟩),(137,⟨1,false,some [.nilFunc],.fN⟩),(144,⟨1,false,some [.nilFunc],.fN⟩),(147,⟨1,false,some [.nilFunc],.fN⟩),(149,⟨1,false,some [zS0],.slice 1 1 8 [.nilFunc]⟩),(150,⟨1,false,some [.map none],.map 3 4 .i64⟩),(152,⟨3,true,some [zI0,zI0,zI0],.struct [zI0,zI0,zI0] [(0,1),(1,1),(2,1)] [false,false,false]⟩),(156,⟨1,false,some [.nilFunc],.fN⟩),(158,⟨1,false,some [.nilFunc],.fN⟩),(163,⟨257,true,some [zI0,zI0,zI0,zI0,zI0,zI0,zI0,zI0,zI0,zI0,zI0,zI0,zI0,zI0,zI0,zI0,zI0,zI0,zI0,zI0,zI0,zI0,zI0,zI0,zI0,zI0,zI0,zI0,zI0,zI0,zI0,zI0,zI0,zI0,zI0,zI0,zI0,zI0,zI0,zI0,zI0,zI0,zI0,zI0,zI0,zI0,zI0,zI0,zI0,zI0,zI0,zI0,zI0,zI0,zI0,zI0,zI0,zI0,zI0,zI0,zI0,zI0,zI0,zI0,zI0,zI0,zI0,zI0,zI0,zI0,zI0,zI0,zI0,zI0,zI0,zI0,zI0,zI0,zI0,zI0,zI0,zI0,zI0,zI0,zI0,zI0,zI0,zI0,zI0,zI0,zI0,zI0,zI0,zI0,zI0,zI0,zI0,zI0,zI0,zI0,zI0,zI0,zI0,zI0,zI0,zI0,zI0,zI0,zI0,zI0,zI0,zI0,zI0,zI0,zI0,zI0,zI0,zI0,zI0,zI0,zI0,zI0,zI0,zI0,zI0,zI0,zI0,zI0,zI0,zI0,zI0,zI0,zI0,zI0,zI0,zI0,zI0,zI0,zI0,zI0,zI0,zI0,zI0,zI0,zI0,zI0,zI0,zI0,zI0,zI0,zI0,zI0,zI0,zI0,zI0,zI0,zI0,zI0,zI0,zI0,zI0,zI0,zI0,zI0,zI0,zI0,zI0,zI0,zI0,zI0,zI0,zI0,zI0,zI0,zI0,zI0,zI0,zI0,zI0,zI0,zI0,zI0,zI0,zI0,zI0,zI0,zI0,zI0,zI0,zI0,zI0,zI0,zI0,zI0,zI0,zI0,zI0,zI0,zI0,zI0,zI0,zI0,zI0,zI0,zI0,zI0,zI0,zI0,zI0,zI0,zI0,zI0,zI0,zI0,zI0,zI0,zI0,zI0,zI0,zI0,zI0,zI0,zI0,zI0,zI0,zI0,zI0,zI0,zI0,zI0,zI0,zI0,zI0,zI0,zI0,zI0,zI0,zI0,zI0,zI0,zI0,zI0,zI0,zI0,zI0,zI0,zI0,zI0,zI0,zI0,zI0,zI0,zI0,zI0,zI0,zI0,zI0],.fN⟩),(166,⟨2,true,some [zI0,zI0],.struct [zI0,zI0] [(0,1),(1,1)] [false,false]⟩),(168,⟨1,false,some [.nilFunc],.fN⟩),(170,⟨1,false,some [.nilFunc],.fN⟩),(172,⟨1,false,some [.nilFunc],.fN⟩),(174,⟨1,false,some [.nilFunc],.fN⟩),(176,⟨1,false,some [.nilFunc],.fN⟩),(177,⟨1,false,some [.map none],.map 3 22 .i64⟩),(198,⟨1,false,some [.nilFunc],.fN⟩),(207,⟨1,false,some [.int .u64 0],.int .u64⟩),(213,⟨1,false,some [.map none],.map 3 247 .i64⟩),(215,⟨2,true,some [.map none,.map none],.struct [.map none,.map none] [(0,1),(1,1)] [false,false]⟩),(217,⟨1,false,some [.map none],.map 3 3 .i64⟩),(223,⟨1,false,some [.pointer none],.fN⟩),(227,⟨1,false,some [zI0],.int .i64⟩),(234,⟨1,false,some [.int .u32 0],.int .u32⟩),(236,⟨1,false,some [.int .u64 0],.int .u64⟩),(247,⟨1,false,some [zS0],.slice 249 2 16 [zI0,zI0]⟩),(249,⟨2,true,some [zI0,zI0],.struct [zI0,zI0] [(0,1),(1,1)] [false,false]⟩),(251,⟨1,false,some [.nilFunc],.fN⟩),(256,⟨1,false,some [.nilFunc],.fN⟩),(277,⟨1,false,some [zS0],.slice 5 1 1 [.int .u8 0]⟩),(294,⟨2,true,some [zS0,zI0],.struct [zS0,zI0] [(0,1),(1,1)] [false,false]⟩),(296,⟨2,true,some [zS0,zI0],.struct [zS0,zI0] [(0,2)] [true]⟩),(304,⟨1,false,some [.pointer none],.fN⟩),(312,⟨1,false,some [.pointer none],.fN⟩)]
def b0:fe prog bm:=⟨o4,Gi (by kernel_rfl)⟩
def AX:Im 163 [zI0,zI0,zI0,zI0,zI0,zI0,zI0,zI0,zI0,zI0,zI0,zI0,zI0,zI0,zI0,zI0,zI0,zI0,zI0,zI0,zI0,zI0,zI0,zI0,zI0,zI0,zI0,zI0,zI0,zI0,zI0,zI0,zI0,zI0,zI0,zI0,zI0,zI0,zI0,zI0,zI0,zI0,zI0,zI0,zI0,zI0,zI0,zI0,zI0,zI0,zI0,zI0,zI0,zI0,zI0,zI0,zI0,zI0,zI0,zI0,zI0,zI0,zI0,zI0,zI0,zI0,zI0,zI0,zI0,zI0,zI0,zI0,zI0,zI0,zI0,zI0,zI0,zI0,zI0,zI0,zI0,zI0,zI0,zI0,zI0,zI0,zI0,zI0,zI0,zI0,zI0,zI0,zI0,zI0,zI0,zI0,zI0,zI0,zI0,zI0,zI0,zI0,zI0,zI0,zI0,zI0,zI0,zI0,zI0,zI0,zI0,zI0,zI0,zI0,zI0,zI0,zI0,zI0,zI0,zI0,zI0,zI0,zI0,zI0,zI0,zI0,zI0,zI0,zI0,zI0,zI0,zI0,zI0,zI0,zI0,zI0,zI0,zI0,zI0,zI0,zI0,zI0,zI0,zI0,zI0,zI0,zI0,zI0,zI0,zI0,zI0,zI0,zI0,zI0,zI0,zI0,zI0,zI0,zI0,zI0,zI0,zI0,zI0,zI0,zI0,zI0,zI0,zI0,zI0,zI0,zI0,zI0,zI0,zI0,zI0,zI0,zI0,zI0,zI0,zI0,zI0,zI0,zI0,zI0,zI0,zI0,zI0,zI0,zI0,zI0,zI0,zI0,zI0,zI0,zI0,zI0,zI0,zI0,zI0,zI0,zI0,zI0,zI0,zI0,zI0,zI0,zI0,zI0,zI0,zI0,zI0,zI0,zI0,zI0,zI0,zI0,zI0,zI0,zI0,zI0,zI0,zI0,zI0,zI0,zI0,zI0,zI0,zI0,zI0,zI0,zI0,zI0,zI0,zI0,zI0,zI0,zI0,zI0,zI0,zI0,zI0,zI0,zI0,zI0,zI0,zI0,zI0,zI0,zI0,zI0,zI0,zI0,zI0,zI0,zI0,zI0,zI0]:=(b0.ty (T:=163) rfl).Ij _ rfl
def B3:fO prog 3 1 false:=(b0.ty (T:=3) rfl).ty
def GS:iU prog 27 120 3:=(b0.ty (T:=27) rfl).kd.1
def GU:iU prog 45 56 4:=(b0.ty (T:=45) rfl).kd.1
def Qc:o2 prog 45 56 4 [zI0,zI0,zI0,zS0]:=(b0.ty (T:=45) rfl).kd.2.2
def GV:fO prog 54 1 false:=(b0.ty (T:=54) rfl).ty
def wA:fO prog 163 257 true:=(b0.ty (T:=163) rfl).ty
def Om:fZ prog 177 3 22 .i64:=(b0.ty (T:=177) rfl).kd
def iO:fZ prog 213 3 247 .i64:=(b0.ty (T:=213) rfl).kd
def mb:fZ prog 217 3 3 .i64:=(b0.ty (T:=217) rfl).kd
def Rq:be prog 5:=⟨call5⟩
def Rv:be prog 6:=⟨call6⟩
def g2:be prog 7:=⟨call7⟩
def Rz:be prog 8:=⟨call8⟩
def RD:be prog 9:=⟨call9⟩
def GW:be prog 10:=⟨call10⟩
def wX:be prog 11:=⟨call11⟩
def Q7:be prog 12:=⟨call12⟩
def Q8:be prog 13:=⟨call13⟩
def GX:be prog 16:=⟨call16⟩
def Q9:be prog 17:=⟨call17⟩
def Ra:be prog 18:=⟨call18⟩
def Rb:be prog 19:=⟨call19⟩
def wY:be prog 20:=⟨call20⟩
def Rc:be prog 21:=⟨call21⟩
def Re:be prog 23:=⟨call23⟩
def Rf:be prog 24:=⟨call24⟩
def lE:be prog 25:=⟨call25⟩
def Rg:be prog 26:=⟨call26⟩
def Rh:be prog 28:=⟨call28⟩
def Ri:be prog 30:=⟨call30⟩
def GY:be prog 31:=⟨call31⟩
def Rj:be prog 32:=⟨call32⟩
def A3:be prog 33:=⟨call33⟩
def GZ:be prog 34:=⟨call34⟩
def G0:be prog 35:=⟨call35⟩
def Rk:be prog 36:=⟨call36⟩
def Rl:be prog 37:=⟨call37⟩
def Rm:be prog 38:=⟨call38⟩
def A4:be prog 39:=⟨call39⟩
def G1:be prog 40:=⟨call40⟩
def G2:be prog 41:=⟨call41⟩
def G3:be prog 42:=⟨call42⟩
def lF:be prog 43:=⟨call43⟩
def G4:be prog 44:=⟨call44⟩
def G5:be prog 45:=⟨call45⟩
def Rn:be prog 46:=⟨call46⟩
def nH:be prog 47:=⟨call47⟩
def Ro:be prog 48:=⟨call48⟩
def Rp:be prog 49:=⟨call49⟩
def Rr:be prog 50:=⟨call50⟩
def Rs:be prog 51:=⟨call51⟩
def Rt:be prog 52:=⟨call52⟩
def qL:be prog 56:=⟨call56⟩
def wZ:be prog 57:=⟨call57⟩
def oW:be prog 58:=⟨call58⟩
def Ru:be prog 59:=⟨call59⟩
def Rw:be prog 60:=⟨call60⟩
def G6:be prog 61:=⟨call61⟩
def s2:be prog 62:=⟨call62⟩
def qM:be prog 63:=⟨call63⟩
def w1:be prog 64:=⟨call64⟩
def A5:be prog 65:=⟨call65⟩
def Rx:be prog 66:=⟨call66⟩
def qN:be prog 67:=⟨call67⟩
def G7:be prog 68:=⟨call68⟩
def w2:be prog 69:=⟨call69⟩
def A6:be prog 70:=⟨call70⟩
def G8:be prog 71:=⟨call71⟩
def G9:be prog 72:=⟨call72⟩
def qO:be prog 73:=⟨call73⟩
def mG:be prog 74:=⟨call74⟩
def s5:be prog 75:=⟨call75⟩
def s6:be prog 76:=⟨call76⟩
def GK:be prog 77:=⟨call77⟩
def Ry:be prog 78:=⟨call78⟩
def mu:be prog 80:=⟨call80⟩
def oZ:be prog 81:=⟨call81⟩
def RA:be prog 82:=⟨call82⟩
def A7:be prog 83:=⟨call83⟩
def GL:be prog 84:=⟨call84⟩
def RB:be prog 85:=⟨call85⟩
def nI:be prog 86:=⟨call86⟩
def w3:be prog 87:=⟨call87⟩
def jZ:be prog 88:=⟨call88⟩
def RC:be prog 89:=⟨call89⟩
def GM:be prog 90:=⟨call90⟩
def RE:be prog 91:=⟨call91⟩
def sW:be prog 92:=⟨call92⟩
def RF:be prog 93:=⟨call93⟩
def RG:be prog 94:=⟨call94⟩
def RH:be prog 96:=⟨call96⟩
def GN:be prog 98:=⟨call98⟩
def gV:be prog 99:=⟨call99⟩
def Qd:be prog 100:=⟨call100⟩
def Qe:be prog 101:=⟨call101⟩
def Qf:be prog 102:=⟨call102⟩
def wB:be prog 104:=⟨call104⟩
def Qg:be prog 105:=⟨call105⟩
def Qh:be prog 106:=⟨call106⟩
def oG:be prog 107:=⟨call107⟩
def AY:be prog 108:=⟨call108⟩
def Gj:be prog 109:=⟨call109⟩
def Gk:be prog 110:=⟨call110⟩
def AZ:be prog 111:=⟨call111⟩
def Qi:be prog 112:=⟨call112⟩
def Qj:be prog 113:=⟨call113⟩
def Qk:be prog 114:=⟨call114⟩
def Gl:be prog 115:=⟨call115⟩
def oB:be prog 116:=⟨call116⟩
def Ql:be prog 117:=⟨call117⟩
def Qm:be prog 118:=⟨call118⟩
def Qn:be prog 119:=⟨call119⟩
def Qo:be prog 120:=⟨call120⟩
def Qp:be prog 121:=⟨call121⟩
def A0:be prog 126:=⟨call126⟩
def Pz:be prog 127:=⟨call127⟩
def qt:be prog 128:=⟨call128⟩
def PA:be prog 129:=⟨call129⟩
def PB:be prog 130:=⟨call130⟩
def Gm:be prog 131:=⟨call131⟩
def PC:be prog 132:=⟨call132⟩
def PD:be prog 133:=⟨call133⟩
def oH:be prog 134:=⟨call134⟩
def wC:be prog 135:=⟨call135⟩
def PE:be prog 136:=⟨call136⟩
def Gn:be prog 137:=⟨call137⟩
def PF:be prog 138:=⟨call138⟩
def fU:be prog 139:=⟨call139⟩
def PG:be prog 140:=⟨call140⟩
def PI:be prog 141:=⟨call141⟩
def PJ:be prog 142:=⟨call142⟩
def PK:be prog 143:=⟨call143⟩
def wD:be prog 144:=⟨call144⟩
def wE:be prog 145:=⟨call145⟩
def PL:be prog 146:=⟨call146⟩
def PM:be prog 147:=⟨call147⟩
def PN:be prog 148:=⟨call148⟩
def Gp:be prog 149:=⟨call149⟩
def Gq:be prog 150:=⟨call150⟩
def PO:be prog 152:=⟨call152⟩
def PR:be prog 154:=⟨call154⟩
def PS:be prog 156:=⟨call156⟩
def PT:be prog 157:=⟨call157⟩
def PU:be prog 158:=⟨call158⟩
def PV:be prog 159:=⟨call159⟩
def PW:be prog 160:=⟨call160⟩
def PX:be prog 161:=⟨call161⟩
def PY:be prog 162:=⟨call162⟩
def Gr:be prog 163:=⟨call163⟩
def A1:be prog 164:=⟨call164⟩
def Gs:be prog 169:=⟨call169⟩
def Gt:be prog 170:=⟨call170⟩
def Gu:be prog 171:=⟨call171⟩
def PZ:be prog 172:=⟨call172⟩
def P0:be prog 173:=⟨call173⟩
def Gv:be prog 174:=⟨call174⟩
def Pq:be prog 184:=⟨call184⟩
def Pr:be prog 201:=⟨call201⟩
def Pt:be prog 203:=⟨call203⟩
def Pu:be prog 209:=⟨call209⟩
def Pv:be prog 210:=⟨call210⟩
def Pw:be prog 211:=⟨call211⟩
def Px:be prog 212:=⟨call212⟩
def Py:be prog 225:=⟨call225⟩
def Gw:be prog 236:=⟨call236⟩
def Qx:be prog 237:=⟨call237⟩
def kH:be prog 253:=⟨call253⟩
def Qy:be prog 254:=⟨call254⟩
def Qz:be prog 261:=⟨call261⟩
def Gx:be prog 262:=⟨call262⟩
def QA:be prog 263:=⟨call263⟩
def QB:be prog 265:=⟨call265⟩
def QC:be prog 266:=⟨call266⟩
def QD:be prog 267:=⟨call267⟩
def ak{N:Nat}{ids:List Nat}{y:Code}{Q:Exit->ag->U->Prop}{env:ag}{σ:U}{id:Nat}{ops:Array Oper}{dw:Bool}(Tn:List (Nat×Hint prog))(cC:ag)(σ2:U)(k:aq ⟨prog,N,ids⟩ y Q cC σ2)
  (h:mL bm N ids ops dw (gx ops dw Tn).1 (gx ops dw Tn).2 [] Tn (kG cC) σ2.ids env σ=some (cC,σ2,(gx ops dw Tn).2.map λi=>(hintOf Tn i).exp):=by kernel_rfl):aq ⟨prog,N,ids⟩ (.seq (.region id ops dw) y) Q env σ:=atV b0 [] Tn cC σ2 h k
def jP{N:Nat}{ids:List Nat}{Q:Exit->ag->U->Prop}{env:ag}{σ:U}{id:Nat}{ops:Array Oper}{dw:Bool}(Tn:List (Nat×Hint prog))(cC:ag)(σ2:U)(k:Q .normal cC σ2)
  (h:mL bm N ids ops dw (gx ops dw Tn).1 (gx ops dw Tn).2 [] Tn (kG cC) σ2.ids env σ=some (cC,σ2,(gx ops dw Tn).2.map λi=>(hintOf Tn i).exp):=by kernel_rfl):aq ⟨prog,N,ids⟩ (.region id ops dw) Q env σ:=A.R b0 [] Tn cC σ2 h k
def GO(n:Nat):List Nat->Bool
 |[]=>false
 |k::r=>bif Nat.beq k n then true else GO n r
def hG{α:Type}(ks:List Nat)(Vf:List (Nat×α)):List (Nat×α)->List (Nat×α)
 |[]=>Vf
 |p::l=>bif GO p.1 ks then hG ks Vf l else p::hG ks Vf l
section
variable {N:Nat}{ids:List Nat}{y:Code}{Q:Exit->ag->U->Prop}{env:ag}{σ:U}{id:Nat}{ops:Array Oper}{dw:Bool}(Tn:List (Nat×Hint prog))(ks:List Nat)(Vf:ag)(aeM:List Nat)(aeT:U)
def aT(k:aq ⟨prog,N,ids⟩ y Q (hG ks Vf env) (hG aeM aeT σ))
  (h:mL bm N ids ops dw (gx ops dw Tn).1 (gx ops dw Tn).2 [] Tn (kG (hG ks Vf env)) (U.ids (hG aeM aeT σ)) env σ=some (hG ks Vf env,hG aeM aeT σ,(gx ops dw Tn).2.map λi=>(hintOf Tn i).exp):=by kernel_rfl):aq ⟨prog,N,ids⟩ (.seq (.region id ops dw) y) Q env σ:=atV b0 [] Tn _ _ h k
def ai(k:aq ⟨prog,N,ids⟩ y Q (hG ks Vf env) σ)
  (h:mL bm N ids ops dw (gx ops dw Tn).1 (gx ops dw Tn).2 [] Tn (kG (hG ks Vf env)) σ.ids env σ=some (hG ks Vf env,σ,(gx ops dw Tn).2.map λi=>(hintOf Tn i).exp):=by kernel_rfl):aq ⟨prog,N,ids⟩ (.seq (.region id ops dw) y) Q env σ:=atV b0 [] Tn _ _ h k
def bX(k:Q .normal (hG ks Vf env) (hG aeM aeT σ))
  (h:mL bm N ids ops dw (gx ops dw Tn).1 (gx ops dw Tn).2 [] Tn (kG (hG ks Vf env)) (U.ids (hG aeM aeT σ)) env σ=some (hG ks Vf env,hG aeM aeT σ,(gx ops dw Tn).2.map λi=>(hintOf Tn i).exp):=by kernel_rfl):aq ⟨prog,N,ids⟩ (.region id ops dw) Q env σ:=A.R b0 [] Tn _ _ h k
def bu(k:Q .normal (hG ks Vf env) σ)
  (h:mL bm N ids ops dw (gx ops dw Tn).1 (gx ops dw Tn).2 [] Tn (kG (hG ks Vf env)) σ.ids env σ=some (hG ks Vf env,σ,(gx ops dw Tn).2.map λi=>(hintOf Tn i).exp):=by kernel_rfl):aq ⟨prog,N,ids⟩ (.region id ops dw) Q env σ:=A.R b0 [] Tn _ _ h k
end
def aX{N:Nat}{ids:List Nat}{a:Func}{env:ag}{σ σ2:U}{R:H}(h:Bc bm ids [] σ2.ids a.results.toList env σ=some (R,σ2):=by kernel_rfl):
  oQ ⟨prog,N,ids⟩ a (λc b=>c=R/\b=σ2) .ret env σ:=atv b0 [] rfl h
variable {G:bG}
def c5{env cC:ag}{σ σ2:U}(h:qq G.ids [] [] (kG cC) σ2.ids env σ=some (cC,σ2):=by kernel_rfl):cu G env σ cC σ2:=cu.go [] [] h
variable {TL:Type}{r:TL}
def aV{α:Type}{J:α->Option TL}{env:ag}{σ:U}{a:α->ag}{b:α->U}(g:α)(c:J g=some r)(h:qq G.ids [] [] (kG (a g)) (b g).ids env σ=some (a g,b g):=by kernel_rfl):
  ∃g,J g=some r/\cu G env σ (a g) (b g):=⟨g,c,cu.go [] [] h⟩
variable {o:Operand}
def aJ{p:Bool}{x y:Code}{Q:Exit->ag->U->Prop}{env:ag}{σ:U}(a:p=true)(k:aq G x Q env σ)(b:env.cc o=some (.bool p):=by kernel_rfl):aq G (.cond o x y) Q env σ:=atS b a k
def aI{p:Bool}{x y:Code}{Q:Exit->ag->U->Prop}{env:ag}{σ:U}(a:p=false)(k:aq G y Q env σ)(b:env.cc o=some (.bool p):=by kernel_rfl):aq G (.cond o x y) Q env σ:=atI b a k
def ct{env cC:ag}{σ σ2:U}(a:List jg)(sl:List Nat)(h:qq G.ids a sl (kG cC) σ2.ids env σ=some (cC,σ2):=by kernel_rfl):cu G env σ cC σ2:=Ec h
def Tg{p:Bool}{x y:Code}{Q:Exit->ag->U->Prop}{env:ag}{σ:U}{s t:Option TL}(b:(bif p then s else t)=some r)(dG:p=true->s=some r->aq G x Q env σ)(bE:p=false->t=some r->aq G y Q env σ)(c:env.cc o=some (.bool p):=by kernel_rfl):aq G (.cond o x y) Q env σ:=by
 rcases aC b with⟨a,b⟩|⟨a,b⟩
 .exact atS c a (dG a b)
 .exact atI c a (bE a b)
abbrev H.d(p:Prop)[Decidable p]:H:=.bool (decide p)
abbrev bY.c(T:TypeId)(cs:List H):bY:=.cells T cs
abbrev u(n:Int):H:=.int .i64 n
abbrev aj{α:Type}(e:eT α)(l:List α):H:=.bn false (af e l)
abbrev ha(x:bk):List H:=[.int .i64 x.aP,.bool x.bw]
abbrev dG(x:aR):List H:=[.int .i64 x.A,.int .i64 x.B,.int .i64 x.gn,.int .i64 x.gd,.int .i64 x.dW]
abbrev bE(x:aK):List H:=[.bn false (af bz x.aL),.bn false (af aD x.Links)]
abbrev cn(x:bH):List H:=[.bn false (af aW x.L),.int .i64 x.At]
abbrev ki(x:gC):List H:=[.bn false (af gP x.Links),.bn false (af aW x.aL)]
abbrev jo(x:cV):List H:=[.int .i64 x.dy,.int .i64 x.ig,.int .i64 x.dW]
abbrev pF(x:dA):List H:=[.int .i64 x.cg,.int .i64 x.aP,.int .i64 x.Length]
abbrev dB(x:aO):List H:=[.int .i64 x.Router,.int .i64 x.Seq,.bool x.bw,.bn false (af dg x.Links),.bn false (af c8 x.Claims)]
abbrev eF(x:bF):List H:=[.bn false (af cm x.bf)]
abbrev m3(x:bS):List H:=[.int .i64 x.c4,.int .i64 x.bW,.bn false (af cm x.Database.bf)]
abbrev ir(x:a2):List H:=[.int .i64 x.Router,.int .i64 x.Seq,.bool x.bw,.bn false (af c8 x.Claims),.bn false (af cm x.Database.bf)]
abbrev kg(x:bZ):List H:=[.int .i64 x.Router,.int .i64 x.Claim.cg,.int .i64 x.Claim.aP,.int .i64 x.Claim.Length]
abbrev i2(x:cF):List H:=[.int .i64 x.Router,.int .i64 x.aP]
abbrev nY(x:cB):List H:=[.int .i64 x.dx,.int .i64 x.fC]
abbrev nZ(x:fF):List H:=[.int .i64 x.aP,.bn false (af aW x.Next)]
abbrev cK(x:aA):List H:=[.bn false (af aD x.Links),.bn false (af bA x.ay),.bn false (af bT x.aY)]
abbrev gW(x:eE):List H:=[.int .i64 x.cg,.int .i64 x.Length,.bn false (af eu x.c9)]
abbrev lY(x:dh):List H:=[.int .i64 x.Router,.int .i64 x.cg,.int .i64 x.Length,.bn false (af fD x.Rows)]
abbrev jC:=List aR
abbrev kT:=List a2
abbrev l5:=List bZ
abbrev ng:=List bS
abbrev pK:=List bk
abbrev pR:=List aO
abbrev p4:=List cB
abbrev sg:=Option aO
abbrev sL:=List dA
abbrev sV:=List dh
abbrev uQ:=List cV
abbrev u6:=List cF
end
section
open Go
set_option maxRecDepth 100000
set_option linter.all false
section
noncomputable section
def m5(l:bR)(n:Int):dK:=
 bL l 0 (λ(d:Int) (c:Int) (a:Unit->Option _) ()=>bif decide (c=n)then some true else a ()) (λ(b:Unit)=>match b with|()=>some false) ()
def uw(l:bR)(n:Int):iG:=
 fI (λ(g:Int->Option _) (a:Int)=>jn (λ(d:Bool)=>bif d then g (a1 (a+1))else jn (λ(j:Bool)=>bif j then some l else aa (gT l (0:Int) a) λ(f:bR)=>aa (dr [] f) λ(i:bR)=>aa (dr i ([n]:bR)) λ(k:bR)=>aa (gT l a (l.length:Int)) λ(m:bR)=>aa (dr k m) λ(o:bR)=>some o) λc=>(bif decide (a<(l.length:Int))then aa (b4 l a) λ(h:Int)=>c (decide (h=n))else c false)) λb=>(bif decide (a<(l.length:Int))then aa (b4 l a) λ(e:Int)=>b (decide (e<n))else b false)) (0:Int)
def Cl(a:bR)(b:bR):dK:=
 bif !decide ((a.length:Int)=(b.length:Int))then some false else bL a 0 (λ(f:Int) (g:Int) (d:Unit->Option _) ()=>aa (b4 b (f:Int)) λ(c:Int)=>bif !decide (g=c)then some false else d ()) (λ(e:Unit)=>match e with|()=>some true) ()
end
end
section
noncomputable section
def uL(n:Int):dK:=
 some ((decide (1<=n))&&(decide (n<=1000)))
def pN(t:aK)(c:Int):dK:=
 bL t.aL 0 (λ(e:Int) (d:bk) (a:Unit->Option _) ()=>bif decide (d.aP=c)then some true else a ()) (λ(b:Unit)=>match b with|()=>some false) ()
def uB(t:aK)(b:Int)(c:Int):Option (Int×Bool):=
 bL t.Links 0 (λ(f:Int) (a:aR) (d:Unit->Option _) ()=>bif ((decide (a.A=b))&&(decide (a.B=c)))then some (a.gn,true)else bif ((decide (a.B=b))&&(decide (a.A=c)))then some (a.gd,true)else d ()) (λ(e:Unit)=>match e with|()=>some ((0:Int),false)) ()
def pL(t:aK):gA:=
 bif ((decide (24<(t.aL.length:Int)))||(decide (60<(t.Links.length:Int))))then some (3:Int)else bL t.aL 0 (λ(A:Int) (i:bk) (o:Unit->Option _) ()=>bif ((decide (i.aP<1))||(decide (99<i.aP)))then some (2:Int)else o ()) (λ(a:Unit)=>match a with|()=>bL (List.drop 1 t.aL) 1 (λ(j:Int) (z:bk) (s:Unit->Option _) ()=>aa (b4 t.aL (a1 ((j:Int)-(1:Int)))) λ(m:bk)=>bif decide (z.aP<=m.aP)then some (25:Int)else s ()) (λ(a:Unit)=>match a with|()=>bL t.Links 0 (λ(B:Int) (c:aR) (u:Unit->Option _) ()=>jn (λ(k:Bool)=>bif k then some (2:Int)else u ()) λb=>aa (uL c.gn) λ(p:Bool)=>(bif !p then b true else aa (uL c.gd) λ(q:Bool)=>(bif !q then b true else(bif decide (c.dW<0)then b true else b (decide (1000<c.dW)))))) (λ(a:Unit)=>match a with|()=>bL t.Links 0 (λ(C:Int) (h:aR) (w:Unit->Option _) ()=>jn (λ(r:Bool)=>bif r then some (4:Int)else w ()) λf=>aa (pN t h.A) λ(l:Bool)=>(bif !l then f true else aa (pN t h.B) λ(n:Bool)=>f (!n))) (λ(a:Unit)=>match a with|()=>bL t.Links 0 (λ(D:Int) (g:aR) (x:Unit->Option _) ()=>bif decide (g.B<=g.A)then some (8:Int)else x ()) (λ(a:Unit)=>match a with|()=>bL (List.drop 1 t.Links) 1 (λ(v:Int) (e:aR) (y:Unit->Option _) ()=>aa (b4 t.Links (a1 ((v:Int)-(1:Int)))) λ(d:aR)=>bif ((decide (e.A<d.A))||((decide (d.A=e.A))&&(decide (e.B<=d.B))))then some (25:Int)else y ()) (λ(a:Unit)=>match a with|()=>some (0:Int)) ()) ()) ()) ()) ()) ()
def vm(a:Int)(n:Int):gA:=
 bif decide (n<1)then some (0:Int)else eU (decide (n≠0))<|jn (λ(c:Int)=>some c) λb=>bif decide (Int.tmod a n<0)then b (a1 ((Int.tmod a n)+n))else b (Int.tmod a n)
def uC(t:bH):Option (Int×bH):=
 bif decide ((t.L.length:Int)<=t.At)then some ((0:Int),t)else aa (b4 t.L (a1 ((a1 (t.At+1))-(1:Int)))) λ(a:Int)=>some (a,(bH.mk t.L (a1 (t.At+1))))
def gr(t:bH)(n:Int):Option (Int×bH):=
 aa (uC t) λ(a:Int×bH)=>aa (vm a.1 n) λ(b:Int)=>some (b,a.2)
def nV(t:bH)(low:Int)(high:Int):Option (Int×bH):=
 aa (gr t (a1 ((a1 (high-low))+(1:Int)))) λ(a:Int×bH)=>some (a1 (low+a.1),a.2)
end
end
section
noncomputable section
def rS(t:aK)(c:Int):dK:=
 aa (pL t) λ(a:Int)=>(bif decide (a=0)then aa (pN t c) λ(b:Bool)=>some b else some false)
def x6(t:aK)(e:Int):dK:=
 aa (pL t) λ(c:Int)=>bif !decide (c=0)then some false else bL t.aL 0 (λ(f:Int) (a:bk) (b:Unit->Option _) ()=>bif decide (a.aP=e)then some a.bw else b ()) (λ(d:Unit)=>match d with|()=>some false) ()
def uM(t:aK)(h:Int):iG:=
 bL t.aL 0 (λ(i:Int) (c:bk) (e:(bR)->Option _) (a:(bR))=>jn (λ(g:(bR))=>e g) λb=>aa (uB t h c.aP) λ(f:Int×Bool)=>bif f.2 then aa (dr a ([c.aP]:bR)) λ(d:bR)=>b d else b a) (λ(a:(bR))=>some a) []
def uD(l:List gJ)(a:Int)(b:Int):dK:=
 bL l 0 (λ(f:Int) (c:gJ) (d:Unit->Option _) ()=>bif (bif decide (c.c4=a)then((decide (c.bW=b))||((decide (c.c4=b))&&(decide (c.bW=a))))else((decide (c.c4=b))&&(decide (c.bW=a))))then some true else d ()) (λ(e:Unit)=>match e with|()=>some false) ()
def uo(t:aK)(f:gC):Option aK:=
 aa (pL t) λ(p:Int)=>bif !decide (p=0)then some (aK.mk [] [])else bL t.aL 0 (λ(w:Int) (h:bk) (n:(pK)->Option _) (b:(pK))=>jn (λ(o:(pK))=>n o) λe=>aa (m5 f.aL h.aP) λ(q:Bool)=>bif !q then aa (dr b ([h]:pK)) λ(m:pK)=>e m else e b) (λ(b:(pK))=>bL t.Links 0 (λ(v:Int) (a:aR) (u:(jC)->Option _) (c:(jC))=>jn (λ(i:(jC))=>u i) λg=>jn (λ(j:Bool)=>bif j then aa (dr c ([a]:jC)) λ(r:jC)=>g r else g c) λd=>aa (m5 f.aL a.A) λ(k:Bool)=>(bif !k then aa (m5 f.aL a.B) λ(l:Bool)=>(bif !l then aa (uD f.Links a.A a.B) λ(s:Bool)=>d (!s)else d false)else d false)) (λ(c:(jC))=>some (aK.mk b c)) []) []
def pJ(t:aK)(p:Int):iG:=
 fI (λ(j:((bR)×Int)->Option _) (b,c)=>bif decide (c<(b.length:Int))then aa (b4 b c) λ(h:Int)=>aa (uM t h) λ(k:(bR))=>bL k 0 (λ(r:Int) (f:Int) (n:(bR)->Option _) (a:(bR))=>jn (λ(o:(bR))=>n o) λe=>aa (m5 a f) λ(l:Bool)=>bif !l then aa (dr a ([f]:bR)) λ(i:bR)=>e i else e a) (λ(a:(bR))=>j (a,a1 (c+1))) b else bL b 0 (λ(s:Int) (m:Int) (q:(bR)->Option _) (d:(bR))=>aa (uw d m) λ(g:(bR))=>q g) (λ(d:(bR))=>some d) []) (([p]:bR),(0:Int))
def tO(t:aK)(a:Int)(b:Int):dK:=
 aa (rS t a) λ(e:Bool)=>(bif e then aa (rS t b) λ(f:Bool)=>(bif f then aa (pJ t a) λ(c:(bR))=>aa (m5 c b) λ(d:Bool)=>some d else some false)else some false)
end
end
section
noncomputable section
def jj(t:bH)(l:bR):Option (Int×bH):=
 aa (gr t (l.length:Int)) λ(a:Int×bH)=>aa (b4 l a.1) λ(b:Int)=>some (b,a.2)
def lW(t:bH)(n:Int):Option (Bool×bH):=
 aa (gr t n) λ(a:Int×bH)=>some (decide (a.1=a1 (n-1)),a.2)
def uy(t:bH):Option (Int×bH):=
 aa (jj t ([(-1:Int),(0:Int),(1:Int),(7:Int),(8:Int),(23:Int),(24:Int),(31:Int),(32:Int),(63:Int),(64:Int),(99:Int),(100:Int),(255:Int),(256:Int),(257:Int),(1000:Int),(1001:Int),(1023:Int),(1024:Int),(1000000:Int),(1000001:Int),(1099511627776:Int),(9223372036854775807:Int),(-9223372036854775808:Int)]:bR)) λ(a:Int×bH)=>some (a.1,a.2)
def uf(t:bH):Option (Int×bH):=
 aa (jj t ([(8:Int),(8:Int),(16:Int),(32:Int),(64:Int)]:bR)) λ(a:Int×bH)=>some (a.1,a.2)
def uV(l:jC):Option (List aR):=
 bL l 0 (λ(o:Int) (d:aR) (h:(jC)->Option _) (a:(jC))=>fI (λ(k:Int->Option _) (b:Int)=>jn (λ(f:Bool)=>bif f then k (a1 (b+1))else aa (gT a (0:Int) b) λ(g:jC)=>aa (dr [] g) λ(i:jC)=>aa (dr i ([d]:jC)) λ(j:jC)=>aa (gT a b (a.length:Int)) λ(m:jC)=>aa (dr j m) λ(n:jC)=>h n) λc=>(bif decide (b<(a.length:Int))then aa (b4 a b) λ(e:aR)=>(bif decide (e.A<d.A)then c true else(bif decide (e.A=d.A)then c (decide (e.B<d.B))else c false))else c false)) (0:Int)) (λ(a:(jC))=>some a) []
def vn(l:bR):Option bH:=
 jn (λ(b:(bR))=>some (bH.mk b (0:Int))) λa=>bif decide (600<(l.length:Int))then aa (gT l (0:Int) (600:Int)) λ(c:bR)=>a c else a l
def tV(t:bH)(aF:Int)(n:Int):Option (aK×bH):=
 aa (nV t (1:Int) aF) λ(g:Int×bH)=>eU (decide ((g.1+1)<=9223372036854775807))<|hM ((g.1+1)-(1:Int)).toNat (1:Int) (λ(M:Int) (Y:(pK)->Option _) (c:(pK))=>aa (dr c ([(bk.mk (M:Int) true)]:pK)) λ(X:pK)=>Y X) (λ(M:Int) (c:(pK))=>aa (jj g.2 ([(1:Int),(2:Int),(2:Int),(5:Int)]:bR)) λ(l:Int×bH)=>eU (decide ((g.1+1)<=9223372036854775807))<|hM ((g.1+1)-(2:Int)).toNat (2:Int) (λ(f:Int) (af:((jC)×(bR)×Int)->Option _) (s,o,j)=>aa (nV (bH.mk o j) (1:Int) (a1 ((f:Int)-(1:Int)))) λ(K:Int×bH)=>aa (lW K.2 (9:Int)) λ(r:Bool×bH)=>eU (decide ((f:Int)<=9223372036854775807))<|hM ((f:Int)-(1:Int)).toNat (1:Int) (λ(x:Int) (ao:((jC)×(bR)×Int)->Option _) (p,h,i)=>jn (λ(e:(bR)×Int×(jC))=>match e with|(ah,ak,aj)=>ao (aj,ah,ak)) λL=>jn (λ(e:Bool×(bR)×Int)=>match e with|(W,R,S)=>bif W then aa (nV (bH.mk R S) (1:Int) l.1) λ(O:Int×bH)=>aa (nV O.2 (1:Int) l.1) λ(N:Int×bH)=>aa (gr N.2 (4:Int)) λ(y:Int×bH)=>aa (dr p ([(aR.mk (x:Int) (f:Int) O.1 N.1 y.1)]:jC)) λ(Z:jC)=>L (y.2.L,y.2.At,Z)else L (R,S,p)) λw=>(bif decide ((x:Int)=K.1)then(bif !r.1 then w (true,h,i)else aa (lW (bH.mk h i) (3:Int)) λ(v:Bool×bH)=>w (v.1,v.2.L,v.2.At))else aa (lW (bH.mk h i) (3:Int)) λ(u:Bool×bH)=>w (u.1,u.2.L,u.2.At))) (λ(x:Int) (e:(jC)×(bR)×Int)=>match e with|(p,h,i)=>af (p,h,i)) (s,r.2.L,r.2.At)) (λ(f:Int) (e:(jC)×(bR)×Int)=>match e with|(s,o,j)=>aa (uV s) λ(a:(jC))=>jn (λ(e:(bR)×Int×(pK)×(jC))=>match e with|(an,aq,ar,au)=>some ((aK.mk ar au),(bH.mk an aq))) λd=>jn (λ(e:Bool×(bR)×Int)=>match e with|(ab,U,T)=>bif ab then aa (gr (bH.mk U T) (7:Int)) λ(b:Int×bH)=>bif decide (b.1=0)then aa (jj b.2 ([(0:Int),(1:Int),(99:Int),(100:Int),(-1:Int)]:bR)) λ(B:Int×bH)=>aa (dr c ([(bk.mk B.1 false)]:pK)) λ(ae:pK)=>d (B.2.L,B.2.At,ae,a)else bif decide (b.1=1)then aa (gr b.2 (4:Int)) λ(Q:Int×bH)=>aa (gr Q.2 (4:Int)) λ(G:Int×bH)=>aa (dr a ([(aR.mk Q.1 G.1 (1:Int) (1:Int) (0:Int))]:jC)) λ(ai:jC)=>d (G.2.L,G.2.At,c,ai)else bif decide (b.1=2)then bif decide (0<(a.length:Int))then aa (gr b.2 (a.length:Int)) λ(D:Int×bH)=>aa (uy D.2) λ(E:Int×bH)=>aa (b4 a D.1) λ(k:aR)=>aa (fu a D.1 (aR.mk k.A k.B E.1 k.gd k.dW)) λ(am:jC)=>d (E.2.L,E.2.At,c,am)else d (b.2.L,b.2.At,c,a)else bif decide (b.1=3)then bif decide (0<(a.length:Int))then aa (gr b.2 (a.length:Int)) λ(F:Int×bH)=>aa (uy F.2) λ(H:Int×bH)=>aa (b4 a F.1) λ(m:aR)=>aa (fu a F.1 (aR.mk m.A m.B m.gn H.1 m.dW)) λ(av:jC)=>d (H.2.L,H.2.At,c,av)else d (b.2.L,b.2.At,c,a)else bif decide (b.1=4)then bif decide (0<(a.length:Int))then aa (gr b.2 (a.length:Int)) λ(I:Int×bH)=>aa (uy I.2) λ(J:Int×bH)=>aa (b4 a I.1) λ(q:aR)=>aa (fu a I.1 (aR.mk q.A q.B q.gn q.gd J.1)) λ(ax:jC)=>d (J.2.L,J.2.At,c,ax)else d (b.2.L,b.2.At,c,a)else bif decide (b.1=5)then bif decide (0<(a.length:Int))then aa (gr b.2 (a.length:Int)) λ(C:Int×bH)=>aa (b4 a C.1) λ(aE:aR)=>aa (dr a ([aE]:jC)) λ(aC:jC)=>d (C.2.L,C.2.At,c,aC)else d (b.2.L,b.2.At,c,a)else hM ((75:Int)-(50:Int)).toNat (50:Int) (λ(P:Int) (aw:(pK)->Option _) (A:(pK))=>aa (dr A ([(bk.mk (P:Int) false)]:pK)) λ(aD:pK)=>aw aD) (λ(P:Int) (A:(pK))=>d (b.2.L,b.2.At,A,a)) c else d (U,T,c,a)) λV=>(bif decide (0<n)then aa (lW (bH.mk o j) n) λ(z:Bool×bH)=>V (z.1,z.2.L,z.2.At)else V (false,o,j))) ([],l.2.L,l.2.At)) []
def rq(t:bH)(g:aK)(n:Int):Option (Int×bH):=
 jn (λ(j:Bool×(bR)×Int)=>match j with|(h,c,e)=>bif h then aa (jj (bH.mk c e) ([(0:Int),(1:Int),(2:Int),(7:Int),(77:Int),(-1:Int)]:bR)) λ(f:Int×bH)=>some (f.1,f.2)else aa (gr (bH.mk c e) (g.aL.length:Int)) λ(d:Int×bH)=>aa (b4 g.aL d.1) λ(i:bk)=>some (i.aP,d.2)) λb=>(bif decide (0<n)then aa (lW t n) λ(a:Bool×bH)=>(bif a.1 then b (true,a.2.L,a.2.At)else b (decide ((g.aL.length:Int)=(0:Int)),a.2.L,a.2.At))else b (decide ((g.aL.length:Int)=(0:Int)),t.L,t.At))
def tP(t:bH)(g:aK):Option (gC×bH):=
 jn (λ(k:Bool×(bR)×Int)=>match k with|(j,b,d)=>bif j then aa (gr (bH.mk b d) (g.Links.length:Int)) λ(i:Int×bH)=>aa (b4 g.Links i.1) λ(a:aR)=>aa (gr i.2 (2:Int)) λ(c:Int×bH)=>bif decide (c.1=0)then some ((gC.mk ([(gJ.mk a.B a.A)]:List gJ) []),c.2)else some ((gC.mk ([(gJ.mk a.A a.B)]:List gJ) []),c.2)else bif decide ((g.aL.length:Int)=(0:Int))then some ((gC.mk [] []),(bH.mk b d))else aa (gr (bH.mk b d) (g.aL.length:Int)) λ(h:Int×bH)=>aa (b4 g.aL h.1) λ(l:bk)=>some ((gC.mk [] ([l.aP]:bR)),h.2)) λf=>(bif decide (0<(g.Links.length:Int))then aa (gr t (3:Int)) λ(e:Int×bH)=>f (decide (0<e.1),e.2.L,e.2.At)else f (false,t.L,t.At))
end
end
section
noncomputable section
def rA(a:Int):dK:=
 some (!decide (a=a))
def hI(a:Int)(y:Int):gA:=
 aa (rA a) λ(c:Bool)=>aa (rA y) λ(b:Bool)=>bif c then bif b then some (0:Int)else some (-1:Int)else bif b then some (1:Int)else bif decide (a<y)then some (-1:Int)else bif decide (y<a)then some (1:Int)else some (0:Int)
def m4(d:bR):gA:=
 bL d 0 (λ(e:Int) (a:Int) (b:Unit->Option _) ()=>bif !decide (a=0)then some a else b ()) (λ(c:Unit)=>match c with|()=>some (0:Int)) ()
def qP(c:pK)(e:Int)(f:bk->Int->gA):Option (Int×Bool):=
 fI (λ(d:(Int×Int)->Option _) (a,b)=>bif decide (a<b)then aa (b4 c (a1 (Int.fdiv (IntKind.wrap .u64 (a1 (a+b))) (2 ^ min (1:Int).toNat 64)))) λ(g:bk)=>aa (f g e) λ(h:Int)=>bif decide (h<0)then d (a1 ((a1 (Int.fdiv (IntKind.wrap .u64 (a1 (a+b))) (2 ^ min (1:Int).toNat 64)))+(1:Int)),b)else d (a,a1 (Int.fdiv (IntKind.wrap .u64 (a1 (a+b))) (2 ^ min (1:Int).toNat 64)))else(bif decide (a<(c.length:Int))then aa (b4 c a) λ(j:bk)=>aa (f j e) λ(i:Int)=>some (a,decide (i=0))else some (a,false))) ((0:Int),(c.length:Int))
def xd(a:ng)(f:bS->dK):gA:=
 bL a 0 (λ(e:Int) (g:bS) (b:Unit->Option _) ()=>aa (f g) λ(c:Bool)=>bif c then some (e:Int)else b ()) (λ(d:Unit)=>match d with|()=>some (-1:Int)) ()
def ti(c:jC)(e:aR)(f:aR->aR->gA):Option (Int×Bool):=
 fI (λ(d:(Int×Int)->Option _) (a,b)=>bif decide (a<b)then aa (b4 c (a1 (Int.fdiv (IntKind.wrap .u64 (a1 (a+b))) (2 ^ min (1:Int).toNat 64)))) λ(g:aR)=>aa (f g e) λ(h:Int)=>bif decide (h<0)then d (a1 ((a1 (Int.fdiv (IntKind.wrap .u64 (a1 (a+b))) (2 ^ min (1:Int).toNat 64)))+(1:Int)),b)else d (a,a1 (Int.fdiv (IntKind.wrap .u64 (a1 (a+b))) (2 ^ min (1:Int).toNat 64)))else(bif decide (a<(c.length:Int))then aa (b4 c a) λ(j:aR)=>aa (f j e) λ(i:Int)=>some (a,decide (i=0))else some (a,false))) ((0:Int),(c.length:Int))
def xm(a:kT)(f:a2->dK):gA:=
 bL a 0 (λ(e:Int) (g:a2) (b:Unit->Option _) ()=>aa (f g) λ(c:Bool)=>bif c then some (e:Int)else b ()) (λ(d:Unit)=>match d with|()=>some (-1:Int)) ()
def tj(a:l5)(f:bZ->dK):gA:=
 bL a 0 (λ(e:Int) (g:bZ) (b:Unit->Option _) ()=>aa (f g) λ(c:Bool)=>bif c then some (e:Int)else b ()) (λ(d:Unit)=>match d with|()=>some (-1:Int)) ()
def xe(a:pK)(f:bk->dK):gA:=
 bL a 0 (λ(e:Int) (g:bk) (b:Unit->Option _) ()=>aa (f g) λ(c:Bool)=>bif c then some (e:Int)else b ()) (λ(d:Unit)=>match d with|()=>some (-1:Int)) ()
def xn(a:jC)(f:aR->dK):gA:=
 bL a 0 (λ(e:Int) (g:aR) (b:Unit->Option _) ()=>aa (f g) λ(c:Bool)=>bif c then some (e:Int)else b ()) (λ(d:Unit)=>match d with|()=>some (-1:Int)) ()
def xo(a:u6)(f:cF->dK):gA:=
 bL a 0 (λ(e:Int) (g:cF) (b:Unit->Option _) ()=>aa (f g) λ(c:Bool)=>bif c then some (e:Int)else b ()) (λ(d:Unit)=>match d with|()=>some (-1:Int)) ()
def xg(a:pR)(f:aO->dK):gA:=
 bL a 0 (λ(e:Int) (g:aO) (b:Unit->Option _) ()=>aa (f g) λ(c:Bool)=>bif c then some (e:Int)else b ()) (λ(d:Unit)=>match d with|()=>some (-1:Int)) ()
def xy(a:bR)(v:Int):gA:=
 bL a 0 (λ(d:Int) (e:Int) (b:Unit->Option _) ()=>bif decide (v=e)then some (d:Int)else b ()) (λ(c:Unit)=>match c with|()=>some (-1:Int)) ()
def te(c:pR)(e:Int)(f:aO->Int->gA):Option (Int×Bool):=
 fI (λ(d:(Int×Int)->Option _) (a,b)=>bif decide (a<b)then aa (b4 c (a1 (Int.fdiv (IntKind.wrap .u64 (a1 (a+b))) (2 ^ min (1:Int).toNat 64)))) λ(g:aO)=>aa (f g e) λ(h:Int)=>bif decide (h<0)then d (a1 ((a1 (Int.fdiv (IntKind.wrap .u64 (a1 (a+b))) (2 ^ min (1:Int).toNat 64)))+(1:Int)),b)else d (a,a1 (Int.fdiv (IntKind.wrap .u64 (a1 (a+b))) (2 ^ min (1:Int).toNat 64)))else(bif decide (a<(c.length:Int))then aa (b4 c a) λ(j:aO)=>aa (f j e) λ(i:Int)=>some (a,decide (i=0))else some (a,false))) ((0:Int),(c.length:Int))
def nP(a:l5)(f:bZ->dK):dK:=
 aa (tj a f) λ(b:Int)=>some (decide (0<=b))
def tg(a:pK)(f:bk->dK):dK:=
 aa (xe a f) λ(b:Int)=>some (decide (0<=b))
def pa(a:jC)(f:aR->dK):dK:=
 aa (xn a f) λ(b:Int)=>some (decide (0<=b))
def qS(a:u6)(f:cF->dK):dK:=
 aa (xo a f) λ(b:Int)=>some (decide (0<=b))
def th(a:pR)(f:aO->dK):dK:=
 aa (xg a f) λ(b:Int)=>some (decide (0<=b))
def pe(a:bR)(v:Int):dK:=
 aa (xy a v) λ(b:Int)=>some (decide (0<=b))
def n0(n:Int)(a:Int)(b:Int):dK:=
 some ((decide (a<=n))&&(decide (n<=b)))
def ri(a:aR)(b:aR):gA:=
 aa (hI a.A b.A) λ(d:Int)=>aa (hI a.B b.B) λ(e:Int)=>aa (m4 ([d,e]:bR)) λ(c:Int)=>some c
def rB(b:bk)(id:Int):gA:=
 aa (hI b.aP id) λ(a:Int)=>some a
def xO(b:bk):dK:=
 aa (n0 b.aP (1:Int) (99:Int)) λ(a:Bool)=>some (!a)
def tW(l:aR):dK:=
 aa (n0 l.gn (1:Int) (1000:Int)) λ(b:Bool)=>(bif !b then some true else aa (n0 l.gd (1:Int) (1000:Int)) λ(c:Bool)=>(bif !c then some true else aa (n0 l.dW (0:Int) (1000:Int)) λ(a:Bool)=>some (!a)))
def rj(id:Int)(b:aK):dK:=
 aa (qP b.aL id rB) λ(a:Int×Bool)=>some (!a.2)
def xP(l:aR)(a:aK):dK:=
 aa (rj l.A a) λ(b:Bool)=>(bif b then some true else aa (rj l.B a) λ(c:Bool)=>some c)
def xQ(l:aR):dK:=
 some (decide (l.B<=l.A))
def iW(t:aK):gA:=
 bif ((decide (24<(t.aL.length:Int)))||(decide (60<(t.Links.length:Int))))then some (3:Int)else aa (tg t.aL xO) λ(k:Bool)=>bif k then some (2:Int)else bL t.aL 0 (λ(d:Int) (r:bk) (j:Unit->Option _) ()=>jn (λ(f:Bool)=>bif f then some (25:Int)else j ()) λc=>(bif decide (0<(d:Int))then aa (b4 t.aL (a1 ((d:Int)-(1:Int)))) λ(h:bk)=>c (decide (r.aP<=h.aP))else c false)) (λ(a:Unit)=>match a with|()=>aa (pa t.Links tW) λ(l:Bool)=>bif l then some (2:Int)else aa (pa t.Links (λ(p:aR)=>xP p t)) λ(g:Bool)=>bif g then some (4:Int)else aa (pa t.Links xQ) λ(i:Bool)=>bif i then some (8:Int)else bL t.Links 0 (λ(b:Int) (s:aR) (q:Unit->Option _) ()=>jn (λ(o:Bool)=>bif o then some (25:Int)else q ()) λe=>(bif decide (0<(b:Int))then aa (b4 t.Links (a1 ((b:Int)-(1:Int)))) λ(m:aR)=>aa (ri m s) λ(n:Int)=>e (decide (0<=n))else e false)) (λ(a:Unit)=>match a with|()=>some (0:Int)) ()) ()
def nW(t:aK):dK:=
 aa (iW t) λ(a:Int)=>some (decide (a=0))
def rC(t:aK)(c:Int):Option (bk×Bool):=
 aa (qP t.aL c rB) λ(a:Int×Bool)=>bif !a.2 then some ((bk.mk (0:Int) false),false)else aa (b4 t.aL a.1) λ(b:bk)=>some (b,true)
def jG(t:aK)(c:Int):dK:=
 aa (rC t c) λ(a:bk×Bool)=>aa (nW t) λ(b:Bool)=>(bif b then some a.2 else some false)
def hP(t:aK)(c:Int):dK:=
 aa (rC t c) λ(a:bk×Bool)=>aa (nW t) λ(b:Bool)=>(bif b then some a.1.bw else some false)
def pH(t:aK)(a:Int)(b:Int):Option (Int×Bool):=
 aa (nW t) λ(e:Bool)=>bif !e then some ((0:Int),false)else aa (ti t.Links (aR.mk (if b<a then b else a) (if b>a then b else a) (0:Int) (0:Int) (0:Int)) ri) λ(c:Int×Bool)=>bif !c.2 then some ((0:Int),false)else bif decide (a<b)then aa (b4 t.Links c.1) λ(d:aR)=>some (d.gn,true)else aa (b4 t.Links c.1) λ(f:aR)=>some (f.gd,true)
end
end
section
noncomputable section
def B0(d:Int):gA:=
 jn (λ(a:Int×Int)=>match a with|(b,f)=>jn (λ(a:Int×Int)=>match a with|(c,i)=>jn (λ(a:Int×Int)=>match a with|(j,k)=>aa (BH (⟨#[0,1,2,2,3,3,3,3,4,4,4,4,4,4,4,4,5,5,5,5,5,5,5,5,5,5,5,5,5,5,5,5,6,6,6,6,6,6,6,6,6,6,6,6,6,6,6,6,6,6,6,6,6,6,6,6,6,6,6,6,6,6,6,6,7,7,7,7,7,7,7,7,7,7,7,7,7,7,7,7,7,7,7,7,7,7,7,7,7,7,7,7,7,7,7,7,7,7,7,7,7,7,7,7,7,7,7,7,7,7,7,7,7,7,7,7,7,7,7,7,7,7,7,7,7,7,7,7,8,8,8,8,8,8,8,8,8,8,8,8,8,8,8,8,8,8,8,8,8,8,8,8,8,8,8,8,8,8,8,8,8,8,8,8,8,8,8,8,8,8,8,8,8,8,8,8,8,8,8,8,8,8,8,8,8,8,8,8,8,8,8,8,8,8,8,8,8,8,8,8,8,8,8,8,8,8,8,8,8,8,8,8,8,8,8,8,8,8,8,8,8,8,8,8,8,8,8,8,8,8,8,8,8,8,8,8,8,8,8,8,8,8,8,8,8,8,8,8,8,8,8,8,8,8,8,8]⟩:ByteArray) (IntKind.wrap .u8 j)) λ(l:UInt8)=>some (a1 (k+(a1 (l.toNat:Int))))) λh=>bif decide (256<=c)then h (Int.fdiv c (2 ^ min (8:Int).toNat 64),a1 (i+8))else h (c,i)) λg=>bif decide (65536<=b)then g (Int.fdiv b (2 ^ min (16:Int).toNat 64),a1 (f+16))else g (b,f)) λe=>bif decide (4294967296<=d)then e (Int.fdiv d (2 ^ min (32:Int).toNat 64),(32:Int))else e (d,(0:Int))
def B4(b:Int):gA:=
 aa (B0 b) λ(a:Int)=>some a
def BD: Option Unit:=
 fI (λ(a:Unit->Option _) ()=>some ()) ()
def BI(c:Int):Option Unit:=
 fI (λ(a:Unit->Option _) ()=>aa (BD) λ(b:Unit)=>some ()) ()
def HG: Option Unit:=
 aa (B4 (0:Int)) λ(a:Int)=>aa (BI a) λ(b:Unit)=>some ()
end
end
section
noncomputable section
def qY(t:aK)(d:Int):iG:=
 bL t.Links 0 (λ(i:Int) (b:aR) (f:(bR)->Option _) (a:(bR))=>jn (λ(h:(bR))=>f h) λc=>bif decide (d=b.A)then aa (dr a ([b.B]:bR)) λ(e:bR)=>c e else bif decide (d=b.B)then aa (dr a ([b.A]:bR)) λ(g:bR)=>c g else c a) (λ(a:(bR))=>eU (decide (a.length<4611686018427387904))<|some (gF a)) []
def q4:Nat->Int->(bR)->(bR)->(pK)->(jC)->iG
 |0,_,_,_,_,_=>none
 |o+1,a,c,e,f,g=>jn (λ(h:Bool)=>bif h then some c else aa (dr c ([a]:bR)) λ(k:bR)=>aa (qY (aK.mk f g) a) λ(i:(bR))=>bL i 0 (λ(q:Int) (p:Int) (l:(bR)->Option _) (b:(bR))=>aa (q4 o p b e f g) λ(j:(bR))=>l j) (λ(b:(bR))=>some b) k) λd=>aa (pe c a) λ(m:Bool)=>(bif m then d true else aa (pe e a) λ(n:Bool)=>d n)
def tX(t:aK)(b:Int)(c:bR):iG:=
 aa (q4 fuel b [] c t.aL t.Links) λ(a:(bR))=>eU (decide (a.length<4611686018427387904))<|some (gF a)
def tM(t:aK)(c:Int):iG:=
 aa (nW t) λ(a:Bool)=>bif !a then some []else aa (qY t c) λ(b:(bR))=>some b
def q5(t:aK)(a:Int)(b:Int):dK:=
 aa (jG t a) λ(e:Bool)=>(bif e then aa (jG t b) λ(f:Bool)=>(bif f then aa (tX t a []) λ(c:(bR))=>aa (pe c b) λ(d:Bool)=>some d else some false)else some false)
end
end
section
noncomputable section
def xV(a:bk)(b:bk):gA:=
 aa (hI a.aP b.aP) λ(c:Int)=>some c
def xW(a:aR)(b:aR):gA:=
 aa (hI a.A b.A) λ(d:Int)=>aa (hI a.B b.B) λ(e:Int)=>aa (m4 ([d,e]:bR)) λ(c:Int)=>some c
def xX(a:cB)(b:cB):gA:=
 aa (hI a.dx b.dx) λ(c:Int)=>some c
def xY(a:cF)(b:cF):gA:=
 aa (hI a.aP b.aP) λ(c:Int)=>some c
end
end
section
noncomputable section
def pq(n:Int):dK:=
 some ((decide (n=8))||((decide (n=16))||((decide (n=32))||(decide (n=64)))))
def l1(n:Int)(a:Int)(b:Int):dK:=
 some ((decide (a<=n))&&(decide (n<=b)))
def m1(a:aO):dK:=
 jn (λ(j:Bool)=>bif j then some false else bL a.Links 0 (λ(i:Int) (d:cV) (n:Unit->Option _) ()=>jn (λ(v:Bool)=>bif v then some false else n ()) λb=>aa (l1 d.dy (1:Int) (99:Int)) λ(k:Bool)=>(bif !k then b true else(bif decide (d.dy=a.Router)then b true else aa (l1 d.ig (1:Int) (1000:Int)) λ(m:Bool)=>(bif !m then b true else aa (l1 d.dW (0:Int) (1000:Int)) λ(s:Bool)=>(bif !s then b true else(bif decide (0<(i:Int))then aa (b4 a.Links (a1 ((i:Int)-(1:Int)))) λ(l:cV)=>b (decide (d.dy<=l.dy))else b false)))))) (λ(g:Unit)=>match g with|()=>bL a.Claims 0 (λ(h:Int) (f:dA) (w:Unit->Option _) ()=>jn (λ(x:Bool)=>bif x then some false else w ()) λc=>aa (l1 f.cg (0:Int) (7:Int)) λ(r:Bool)=>(bif !r then c true else aa (l1 f.aP (1:Int) (256:Int)) λ(u:Bool)=>(bif !u then c true else aa (pq f.Length) λ(t:Bool)=>(bif !t then c true else(bif decide (0<(h:Int))then aa (b4 a.Claims (a1 ((h:Int)-(1:Int)))) λ(q:dA)=>c (decide (f.cg<=q.cg))else c false))))) (λ(g:Unit)=>match g with|()=>some true) ()) ()) λe=>aa (l1 a.Router (1:Int) (99:Int)) λ(o:Bool)=>(bif !o then e true else aa (l1 a.Seq (1:Int) (1000000:Int)) λ(p:Bool)=>(bif !p then e true else(bif decide (23<(a.Links.length:Int))then e true else e (decide (8<(a.Claims.length:Int))))))
def w6(s1:List fF)(a:List fF)(h:fF->fF->dK):dK:=
 bif !decide ((s1.length:Int)=(a.length:Int))then some false else bL s1 0 (λ(f:Int) (g:fF) (c:Unit->Option _) ()=>aa (b4 a (f:Int)) λ(b:fF)=>aa (h g b) λ(d:Bool)=>bif !d then some false else c ()) (λ(e:Unit)=>match e with|()=>some true) ()
def tF(a:uQ)(b:uQ):dK:=
 bif !decide ((a.length:Int)=(b.length:Int))then some false else bL a 0 (λ(f:Int) (g:cV) (d:Unit->Option _) ()=>aa (b4 b (f:Int)) λ(c:cV)=>bif !(oc g c)then some false else d ()) (λ(e:Unit)=>match e with|()=>some true) ()
def tG(a:sL)(b:sL):dK:=
 bif !decide ((a.length:Int)=(b.length:Int))then some false else bL a 0 (λ(f:Int) (g:dA) (d:Unit->Option _) ()=>aa (b4 b (f:Int)) λ(c:dA)=>bif !(od g c)then some false else d ()) (λ(e:Unit)=>match e with|()=>some true) ()
def xc(s1:pR)(a:pR)(h:aO->aO->dK):dK:=
 bif !decide ((s1.length:Int)=(a.length:Int))then some false else bL s1 0 (λ(f:Int) (g:aO) (c:Unit->Option _) ()=>aa (b4 a (f:Int)) λ(b:aO)=>aa (h g b) λ(d:Bool)=>bif !d then some false else c ()) (λ(e:Unit)=>match e with|()=>some true) ()
def n2(a:aO)(b:aO):dK:=
 (bif decide (a.Router=b.Router)then(bif decide (a.Seq=b.Seq)then(bif (a.bw==b.bw)then aa (tF a.Links b.Links) λ(c:Bool)=>(bif c then aa (tG a.Claims b.Claims) λ(d:Bool)=>some d else some false)else some false)else some false)else some false)
def tq(a:jC):Option (List aR):=
 aa (dr ([]:jC) a) λ(b:jC)=>some b
def Hz: Option (List aR):=
 aa (dr ([]:jC) []) λ(a:jC)=>some a
def mO(s:jC):Option (List aR):=tq s
def tr(a:sL):Option (List dA):=
 aa (dr ([]:sL) a) λ(b:sL)=>some b
def Hw: Option (List dA):=
 aa (dr ([]:sL) []) λ(a:sL)=>some a
def o9(s:sL):Option (List dA):=tr s
def ts(a:uQ):Option (List cV):=
 aa (dr ([]:uQ) a) λ(b:uQ)=>some b
def Hy: Option (List cV):=
 aa (dr ([]:uQ) []) λ(a:uQ)=>some a
def qU(s:uQ):Option (List cV):=ts s
def mR(a:aO):sg:=
 aa (qU a.Links) λ(b:(uQ))=>aa (o9 a.Claims) λ(c:(sL))=>some (aO.mk a.Router a.Seq a.bw b c)
def xR(a:aO):dK:=
 aa (m1 a) λ(b:Bool)=>some (!b)
def lR(d:bF):gA:=
 bif decide (99<(d.bf.length:Int))then some (3:Int)else aa (th d.bf xR) λ(g:Bool)=>bif g then some (1:Int)else bL d.bf 0 (λ(b:Int) (i:aO) (f:Unit->Option _) ()=>jn (λ(c:Bool)=>bif c then some (25:Int)else f ()) λa=>(bif decide (0<(b:Int))then aa (b4 d.bf (a1 ((b:Int)-(1:Int)))) λ(e:aO)=>a (decide (i.Router<=e.Router))else a false)) (λ(h:Unit)=>match h with|()=>some (0:Int)) ()
def rD(a:bF)(b:bF):dK:=
 aa (xc a.bf b.bf n2) λ(c:Bool)=>some c
def mW(d:bF)(f:Int):Option (aO×Bool):=
 bL d.bf 0 (λ(g:Int) (a:aO) (b:Unit->Option _) ()=>bif decide (a.Router=f)then aa (mR a) λ(c:aO)=>some (c,true)else b ()) (λ(e:Unit)=>match e with|()=>some ((aO.mk (0:Int) (0:Int) false [] []),false)) ()
def ug(a:aO)(e:Int):Option (cV×Bool):=
 bL a.Links 0 (λ(f:Int) (b:cV) (c:Unit->Option _) ()=>bif decide (b.dy=e)then some (b,true)else c ()) (λ(d:Unit)=>match d with|()=>some ((cV.mk (0:Int) (0:Int) (0:Int)),false)) ()
def lT(d:bF)(t:Int):Option aK:=
 aa (mW d t) λ(p:aO×Bool)=>jn (λ(v:Bool)=>bif v then some (aK.mk [] [])else fI (λ(x:((pR)×(pK)×(jC)×(List (Int×Bool)))->Option _) (l,m,o,A)=>bif decide (0<(l.length:Int))then aa (b4 l (0:Int)) λ(b:aO)=>aa (dr m ([(bk.mk b.Router b.bw)]:pK)) λ(w:pK)=>bL b.Links 0 (λ(I:Int) (i:cV) (D:((pR)×(jC)×(List (Int×Bool)))->Option _) (e,f,c)=>jn (λ(j:(pR)×(List (Int×Bool))×(jC))=>match j with|(H,E,F)=>D (H,F,E)) λk=>aa (mW d i.dy) λ(a:aO×Bool)=>aa (ug a.1 b.Router) λ(h:cV×Bool)=>bif ((!a.2)||(!h.2))then k (e,c,f)else jn (λ(r:(jC))=>bif !((aB c a.1.Router).getD false)then aa (dr e ([a.1]:pR)) λ(C:pR)=>k (C,bM c a.1.Router true,r)else k (e,c,r)) λq=>bif decide (b.Router<a.1.Router)then aa (dr f ([(aR.mk b.Router a.1.Router i.ig h.1.ig (if h.1.dW<i.dW then h.1.dW else i.dW))]:jC)) λ(z:jC)=>q z else q f) (λ(j:(pR)×(jC)×(List (Int×Bool)))=>match j with|(e,f,c)=>aa (gT e (1:Int) (e.length:Int)) λ(G:pR)=>x (G,w,f,c)) (l,o,A)else aa (hK (dQ [λg:bk=>g.aP]) m) λ(s:pK)=>aa (hK (dQ [λg:aR=>g.A,λg:aR=>g.B]) o) λ(u:jC)=>aa (iW (aK.mk s u)) λ(B:Int)=>bif !decide (B=0)then some (aK.mk [] [])else some (aK.mk s u)) (([p.1]:pR),[],[],bM [] t true)) λn=>aa (lR d) λ(y:Int)=>(bif !decide (y=0)then n true else n (!p.2))
def nU(d:bF)(l:Int):Option (List bZ):=
 aa (lT d l) λ(h:aK)=>bL h.aL 0 (λ(o:Int) (c:bk) (g:(l5)->Option _) (a:(l5))=>jn (λ(k:(l5))=>g k) λe=>bif !c.bw then e a else aa (mW d c.aP) λ(i:aO×Bool)=>bL i.1.Claims 0 (λ(n:Int) (m:dA) (j:(l5)->Option _) (b:(l5))=>aa (dr b ([(bZ.mk c.aP m)]:l5)) λ(f:l5)=>j f) (λ(b:(l5))=>e b) a) (λ(a:(l5))=>some a) []
end
end
section
noncomputable section
def uI(n:Int):gA:=
 some (a1 (Int.tdiv (a1 (n+7)) (8:Int)))
def rH(a:dT):dK:=
 jn (λ(c:Bool)=>bif c then some false else(bif decide (a1 ((a1 ((8:Int)*(a.Data.length:Int)))-a.Bits)=(0:Int))then some true else aa (b4 a.Data (a1 ((a.Data.length:Int)-(1:Int)))) λ(d:Int)=>eU (decide (0<=a1 ((8:Int)-(a1 ((a1 ((8:Int)*(a.Data.length:Int)))-a.Bits)))))<|some (decide (IntKind.wrap .u8 (d*2 ^ min (a1 ((8:Int)-(a1 ((a1 ((8:Int)*(a.Data.length:Int)))-a.Bits)))).toNat 8)=(0:Int))))) λb=>(bif decide (a.Bits<0)then b true else(bif decide (8192<a.Bits)then b true else aa (uI a.Bits) λ(e:Int)=>b (!decide ((a.Data.length:Int)=e))))
def uR(a:dT)(i:Int):gA:=
 aa (b4 a.Data (a1 (Int.tdiv i (8:Int)))) λ(b:Int)=>eU (decide (0<=a1 ((7:Int)-(Int.tmod i (8:Int)))))<|some (IntKind.wrap .u64 (fh .and .u8 (Int.fdiv b (2 ^ min (a1 ((7:Int)-(Int.tmod i (8:Int)))).toNat 8)) (1:Int)))
def uJ(f:dT)(m:Int)(n:Int):Option dT:=
 fI (λ(j:(Int×(bR)×Int)->Option _) (a,c,d)=>bif decide (0<a)then jn (λ(k:Int×(bR))=>match k with|(b,e)=>eU (decide (0<=a1 (a-(if b<a then b else a))))<|eU (decide (0<=(if b<a then b else a)))<|aa (b4 e (a1 ((e.length:Int)-(1:Int)))) λ(h:Int)=>eU (decide (0<=a1 (b-(if b<a then b else a))))<|aa (fu e (a1 ((e.length:Int)-(1:Int))) (fh .or .u8 h (IntKind.wrap .u8 (IntKind.wrap .u64 ((fh .and .u64 (Int.fdiv m (2 ^ min (a1 (a-(if b<a then b else a))).toNat 64)) (IntKind.wrap .u64 ((IntKind.wrap .u64 ((1:Int)*2 ^ min (if b<a then b else a).toNat 64))-(1:Int))))*2 ^ min (a1 (b-(if b<a then b else a))).toNat 64))))) λ(l:bR)=>j (a1 (a-(if b<a then b else a)),l,a1 (d+(if b<a then b else a)))) λg=>bif decide (a1 ((a1 ((8:Int)*(c.length:Int)))-d)=(0:Int))then aa (dr c ([(0:Int)]:bR)) λ(i:bR)=>g ((8:Int),i)else g (a1 ((a1 ((8:Int)*(c.length:Int)))-d),c)else some (dT.mk c d)) (n,f.Data,f.Bits)
def yo(a:dT):Option dT:=
 aa (dr [] a.Data) λ(b:bR)=>some (dT.mk b a.Bits)
def uv(b:dT)(c:Int)(n:Int):Option (dT×Int):=
 aa (rH b) λ(f:Bool)=>bif !f then some ((dT.mk [] (0:Int)),(1:Int))else jn (λ(d:Bool)=>bif d then some ((dT.mk [] (0:Int)),(2:Int))else bif decide (8192<a1 (b.Bits+n))then some ((dT.mk [] (0:Int)),(3:Int))else aa (yo b) λ(g:dT)=>aa (uJ g c n) λ(e:dT)=>some (e,(0:Int))) λa=>(bif decide (n<0)then a true else(bif decide (64<n)then a true else(bif decide (n<64)then eU (decide (0<=n))<|a (!decide (Int.fdiv c (2 ^ min n.toNat 64)=(0:Int)))else a false)))
def uK(b:dT):Option (Int×Int):=
 aa (rH b) λ(f:Bool)=>bif !f then some ((0:Int),(1:Int))else eU (decide (b.Bits<=9223372036854775807))<|hM (b.Bits-0).toNat (0:Int) (λ(d:Int) (e:Int->Option _) (a:Int)=>jn (λ(h:Int)=>e h) λc=>aa (uR b (d:Int)) λ(g:Int)=>bif decide (Int.fdiv a (2 ^ min (15:Int).toNat 64)=g)then c (fh .and .u64 (IntKind.wrap .u64 (a*2 ^ min (1:Int).toNat 64)) (65535:Int))else c (fh .xor .u64 (fh .and .u64 (IntKind.wrap .u64 (a*2 ^ min (1:Int).toNat 64)) (65535:Int)) (4129:Int))) (λ(d:Int) (a:Int)=>some (a,(0:Int))) (65535:Int)
end
end
section
noncomputable section
def iH(w:fP)(n:Int)(bits:Int):Option fP:=
 aa (uv w.ef (IntKind.wrap .u64 n) bits) λ(a:dT×Int)=>some (fP.mk a.1)
def GR(a b:bR):Int:=Go.Extern.BytealgCompare.cmp ⟨(a.map λc=>UInt8.ofNat c.toNat).toArray⟩ ⟨(b.map λc=>UInt8.ofNat c.toNat).toArray⟩
def B5(a b:bR):gA:=some (GR a b)
def lV(a:aO):Option ((bR)×Int):=
 aa (m1 a) λ(r:Bool)=>bif !r then some ([],(1:Int))else aa (iH (fP.mk (dT.mk [] (0:Int))) a.Router (7:Int)) λ(s:fP)=>aa (iH s a.Seq (20:Int)) λ(o:fP)=>jn (λ(B:Int)=>aa (iH o B (1:Int)) λ(p:fP)=>aa (iH p (a.Links.length:Int) (5:Int)) λ(k:fP)=>bL a.Links 0 (λ(D:Int) (h:cV) (q:((bR)×Int)->Option _) (e,f)=>aa (iH (fP.mk (dT.mk e f)) h.dy (7:Int)) λ(t:fP)=>aa (iH t h.ig (10:Int)) λ(u:fP)=>aa (iH u h.dW (10:Int)) λ(l:fP)=>q (l.ef.Data,l.ef.Bits)) (λ(g:(bR)×Int)=>match g with|(e,f)=>aa (iH (fP.mk (dT.mk e f)) (a.Claims.length:Int) (4:Int)) λ(n:fP)=>bL a.Claims 0 (λ(C:Int) (i:dA) (v:((bR)×Int)->Option _) (c,b)=>fI (λ(z:Int->Option _) (d:Int)=>eU (decide (0<=d))<|bif decide (IntKind.wrap .i64 ((8:Int)*2 ^ min d.toNat 64)<i.Length)then z (a1 (d+1))else aa (iH (fP.mk (dT.mk c b)) i.cg (3:Int)) λ(w:fP)=>aa (iH w i.aP (9:Int)) λ(x:fP)=>aa (iH x d (2:Int)) λ(m:fP)=>v (m.ef.Data,m.ef.Bits)) (0:Int)) (λ(g:(bR)×Int)=>match g with|(c,b)=>aa (uK (dT.mk c b)) λ(y:Int×Int)=>aa (iH (fP.mk (dT.mk c b)) (a1 y.1) (16:Int)) λ(A:fP)=>some (A.ef.Data,(0:Int))) (n.ef.Data,n.ef.Bits)) (k.ef.Data,k.ef.Bits)) λj=>bif a.bw then j (1:Int)else j (0:Int)
def uE(a:aO)(b:aO):dK:=
 aa (lV a) λ(c:(bR)×Int)=>aa (lV b) λ(d:(bR)×Int)=>bif ((!decide (c.2=0))||((!decide (d.2=0))||(!decide (a.Router=b.Router))))then some false else(bif decide (b.Seq<a.Seq)then some true else(bif decide (a.Seq=b.Seq)then aa (B5 c.1 d.1) λ(e:Int)=>some (decide (0<e))else some false))
end
end
section
noncomputable section
def uh(b:aO)(c:Int):gA:=
 aa (hI b.Router c) λ(a:Int)=>some a
def ry(d:bF):Option bF:=
 bL d.bf 0 (λ(g:Int) (f:aO) (c:(pR)->Option _) (a:(pR))=>aa (mR f) λ(e:aO)=>aa (dr a ([e]:pR)) λ(b:pR)=>c b) (λ(a:(pR))=>some (bF.mk a)) []
def rE(d:bF)(a:aO):Option (Bool×bF):=
 aa (te d.bf a.Router uh) λ(b:Int×Bool)=>jn (λ(e:(pR))=>some (true,(bF.mk e))) λc=>bif !b.2 then aa (mR a) λ(j:aO)=>aa (qK d.bf b.1 j) λ(i:pR)=>c i else aa (b4 d.bf b.1) λ(g:aO)=>aa (uE a g) λ(f:Bool)=>bif f then aa (mR a) λ(h:aO)=>aa (fu d.bf b.1 h) λ(k:pR)=>c k else some (false,d)
def uF(d:bF)(a:aO):Option (bF×Bool):=
 aa (ry d) λ(e:bF)=>jn (λ(f:Bool)=>bif f then some (e,false)else aa (rE e a) λ(c:Bool×bF)=>some (c.2,c.1)) λb=>aa (lR d) λ(h:Int)=>(bif !decide (h=0)then b true else aa (m1 a) λ(g:Bool)=>b (!g))
def uj(a:bF)(b:bF):Option (bF×Int):=
 jn (λ(e:Bool)=>bif e then some ((bF.mk []),(1:Int))else aa (ry a) λ(f:bF)=>bL b.bf 0 (λ(l:Int) (k:aO) (h:(pR)->Option _) (c:(pR))=>aa (rE (bF.mk c) k) λ(g:Bool×bF)=>h g.2.bf) (λ(c:(pR))=>some ((bF.mk c),(0:Int))) f.bf) λd=>aa (lR a) λ(i:Int)=>(bif !decide (i=0)then d true else aa (lR b) λ(j:Int)=>d (!decide (j=0)))
end
end
section
noncomputable section
def uS(t:aK)(c:Int)(seq:Int)(n:sL):Option (aO×Int):=
 aa (iW t) λ(j:Int)=>bif !decide (j=0)then some ((aO.mk (0:Int) (0:Int) false [] []),(1:Int))else aa (jG t c) λ(k:Bool)=>bif !k then some ((aO.mk (0:Int) (0:Int) false [] []),(4:Int))else aa (hP t c) λ(e:Bool)=>aa (dr [] n) λ(f:sL)=>bL t.Links 0 (λ(o:Int) (a:aR) (h:(uQ)->Option _) (b:(uQ))=>jn (λ(i:(uQ))=>h i) λd=>bif decide (c=a.A)then aa (dr b ([(cV.mk a.B a.gn a.dW)]:uQ)) λ(l:uQ)=>d l else bif decide (c=a.B)then aa (dr b ([(cV.mk a.A a.gd a.dW)]:uQ)) λ(m:uQ)=>d m else d b) (λ(b:(uQ))=>aa (m1 (aO.mk c seq e b f)) λ(g:Bool)=>bif !g then some ((aO.mk (0:Int) (0:Int) false [] []),(2:Int))else some ((aO.mk c seq e b f),(0:Int))) []
end
end
section
noncomputable section
def kW(f:aA):Option aK:=
 aa (mO f.Links) λ(e:(jC))=>bL f.ay 0 (λ(g:Int) (b:a2) (d:(pK)->Option _) (a:(pK))=>aa (dr a ([(bk.mk b.Router b.bw)]:pK)) λ(c:pK)=>d c) (λ(a:(pK))=>some (aK.mk a e)) []
def xZ(n:a2)(a:Int):dK:=
 some (decide (n.Router=a))
def mX(f:aA)(b:Int):Option (Int×Bool):=
 aa (xm f.ay (λ(c:a2)=>xZ c b)) λ(a:Int)=>some (a,decide (0<=a))
def ji(f:aA):gA:=
 jn (λ(h:Bool)=>bif h then some (1:Int)else bL f.ay 0 (λ(u:Int) (a:a2) (k:Unit->Option _) ()=>jn (λ(q:Bool)=>bif q then some (1:Int)else k ()) λc=>(bif decide (a.Seq<0)then c true else(bif decide (1000000<a.Seq)then c true else aa (m1 (aO.mk a.Router (1:Int) false [] a.Claims)) λ(i:Bool)=>(bif !i then c true else aa (lR a.Database) λ(j:Int)=>c (!decide (j=0)))))) (λ(e:Unit)=>match e with|()=>bL f.aY 0 (λ(t:Int) (b:bS) (r:Unit->Option _) ()=>aa (mX f b.c4) λ(o:Int×Bool)=>aa (mX f b.bW) λ(n:Int×Bool)=>jn (λ(s:Bool)=>bif s then some (1:Int)else r ()) λd=>(bif !o.2 then d true else(bif !n.2 then d true else(bif decide (b.c4=b.bW)then d true else aa (lR b.Database) λ(p:Int)=>d (!decide (p=0)))))) (λ(e:Unit)=>match e with|()=>some (0:Int)) ()) ()) λg=>aa (kW f) λ(l:aK)=>aa (iW l) λ(m:Int)=>(bif !decide (m=0)then g true else g (decide (400<(f.aY.length:Int))))
def m2(f:aA)(n:a2):Option (aO×Bool):=
 bif decide (n.Seq=0)then some ((aO.mk (0:Int) (0:Int) false [] []),false)else aa (kW f) λ(b:aK)=>aa (uS b n.Router n.Seq n.Claims) λ(a:aO×Int)=>some (a.1,decide (a.2=0))
def pg(d:bF):Option bF:=
 bL d.bf 0 (λ(h:Int) (a:aO) (e:(pR)->Option _) (b:(pR))=>aa (qU a.Links) λ(f:(uQ))=>aa (o9 a.Claims) λ(g:(sL))=>aa (dr b ([(aO.mk a.Router a.Seq a.bw f g)]:pR)) λ(c:pR)=>e c) (λ(b:(pR))=>some (bF.mk b)) []
def j6(f:aA):Option aA:=
 aa (mO f.Links) λ(j:(jC))=>bL f.ay 0 (λ(o:Int) (a:a2) (i:(kT)->Option _) (b:(kT))=>aa (o9 a.Claims) λ(k:(sL))=>aa (pg a.Database) λ(e:bF)=>aa (dr b ([(a2.mk a.Router a.Seq a.bw k e)]:kT)) λ(h:kT)=>i h) (λ(b:(kT))=>bL f.aY 0 (λ(n:Int) (d:bS) (m:(ng)->Option _) (c:(ng))=>aa (pg d.Database) λ(g:bF)=>aa (dr c ([(bS.mk d.c4 d.bW g)]:ng)) λ(l:ng)=>m l) (λ(c:(ng))=>some (aA.mk j b c)) []) []
def tZ(f:aA):dK:=
 jn (λ(j:Bool)=>bif j then some false else aa (kW f) λ(o:aK)=>bL f.ay 0 (λ(n:Int) (a:a2) (l:Unit->Option _) ()=>aa (m2 f a) λ(d:aO×Bool)=>aa (mW a.Database a.Router) λ(g:aO×Bool)=>jn (λ(s:Bool)=>bif s then some false else aa (gT f.ay (0:Int) (n:Int)) λ(k:kT)=>bL k 0 (λ(v:Int) (i:a2) (t:Unit->Option _) ()=>jn (λ(u:Bool)=>bif u then some false else t ()) λh=>aa (q5 o i.Router a.Router) λ(p:Bool)=>(bif p then aa (rD i.Database a.Database) λ(r:Bool)=>h (!r)else h false)) (λ(b:Unit)=>match b with|()=>l ()) ()) λc=>(bif !d.2 then c true else(bif !g.2 then c true else aa (n2 d.1 g.1) λ(q:Bool)=>c (!q)))) (λ(b:Unit)=>match b with|()=>some true) ()) λe=>aa (ji f) λ(m:Int)=>(bif !decide (m=0)then e true else e (decide (0<(f.aY.length:Int))))
end
end
section
noncomputable section
def mN(m:cM)(i:Int):Option cM:=
 aa (b4 m.bg.ay i) λ(a:a2)=>aa (m2 m.bg a) λ(b:aO×Bool)=>bif b.2 then aa (uF a.Database b.1) λ(d:bF×Bool)=>aa (fu m.bg.ay i (a2.mk a.Router a.Seq a.bw a.Claims d.1)) λ(c:kT)=>some (cM.mk (aA.mk m.bg.Links c m.bg.aY))else some m
def q1(m:cM)(i:Int):Option cM:=
 aa (b4 m.bg.ay i) λ(b:a2)=>aa (kW m.bg) λ(f:aK)=>aa (tM f b.Router) λ(g:(bR))=>bL g 0 (λ(j:Int) (h:Int) (e:(ng)->Option _) (a:(ng))=>aa (pg b.Database) λ(c:bF)=>aa (dr a ([(bS.mk b.Router h c)]:ng)) λ(d:ng)=>e d) (λ(a:(ng))=>some (cM.mk (aA.mk m.bg.Links m.bg.ay a))) m.bg.aY
def kU(m:cM)(k:Int):Option cM:=
 aa (b4 m.bg.aY k) λ(g:bS)=>aa (mK m.bg.aY k (a1 (k+1))) λ(b:ng)=>aa (kW (aA.mk m.bg.Links m.bg.ay b)) λ(n:aK)=>aa (pH n g.c4 g.bW) λ(o:Int×Bool)=>bif !o.2 then some (cM.mk (aA.mk m.bg.Links m.bg.ay b))else aa (mX (aA.mk m.bg.Links m.bg.ay b) g.bW) λ(c:Int×Bool)=>aa (b4 m.bg.ay c.1) λ(d:a2)=>aa (uj d.Database g.Database) λ(l:bF×Int)=>aa (fu m.bg.ay c.1 (a2.mk d.Router d.Seq d.bw d.Claims l.1)) λ(h:kT)=>aa (b4 h c.1) λ(a:a2)=>aa (mW a.Database a.Router) λ(e:aO×Bool)=>aa (m2 (aA.mk m.bg.Links h b) a) λ(i:aO×Bool)=>jn (λ(j:Bool)=>bif j then aa (fu h c.1 (a2.mk a.Router (a1 (e.1.Seq+1)) a.bw a.Claims a.Database)) λ(r:kT)=>aa (mN (cM.mk (aA.mk m.bg.Links r b)) c.1) λ(p:cM)=>some p else some (cM.mk (aA.mk m.bg.Links h b))) λf=>(bif e.2 then(bif !i.2 then f (decide (e.1.Seq<1000000))else aa (n2 e.1 i.1) λ(q:Bool)=>(bif !q then f (decide (e.1.Seq<1000000))else f false))else f false)
def qW(m:cM):Option cM:=
 fI (λ(e:((jC)×(kT)×(ng))->Option _) (c,d,b)=>bif decide (0<(b.length:Int))then aa (kU (cM.mk (aA.mk c d b)) (0:Int)) λ(a:cM)=>e (a.bg.Links,a.bg.ay,a.bg.aY)else some (cM.mk (aA.mk c d b))) (m.bg.Links,m.bg.ay,m.bg.aY)
def tD(m:cM):Option cM:=
 bL m.bg.ay 0 (λ(g:Int) (h:a2) (e:((jC)×(kT)×(ng))->Option _) (a,b,d)=>aa (q1 (cM.mk (aA.mk a b d)) (g:Int)) λ(c:cM)=>e (c.bg.Links,c.bg.ay,c.bg.aY)) (λ(f:(jC)×(kT)×(ng))=>match f with|(a,b,d)=>some (cM.mk (aA.mk a b d))) (m.bg.Links,m.bg.ay,m.bg.aY)
def qR(c:ng)(h:bS->dK):Option (List bS):=
 aa (xd c h) λ(d:Int)=>bif decide (d=(-1:Int))then some c else fI (λ(j:((ng)×Int×Int)->Option _) (b,a,e)=>bif decide (e<(b.length:Int))then jn (λ(k:(ng)×Int)=>match k with|(o,n)=>j (o,n,a1 (e+1))) λf=>aa (b4 b e) λ(g:bS)=>aa (h g) λ(l:Bool)=>bif !l then aa (b4 b a) λ(p:bS)=>aa (fu b a g) λ(i:ng)=>f (i,a1 (a+1))else f (b,a)else eU (decide (0<=a/\a<(b.length:Int)))<|aa (gT (b.take a.toNat++List.replicate (b.length-a.toNat) (bS.mk (0:Int) (0:Int) (bF.mk []))) (0:Int) a) λ(m:ng)=>some m) (c,d,a1 (d+1))
end
end
section
noncomputable section
def mP(f:aA)(d:Int):Option (cM×Int×Int):=
 aa (ji f) λ(c:Int)=>bif !decide (c=0)then none else aa (mX f d) λ(a:Int×Bool)=>bif !a.2 then none else aa (j6 f) λ(b:aA)=>some ((cM.mk b),a.1,(0:Int))
def pn(f:aA)(c:Int):Option (Int×Int):=
 aa (ji f) λ(a:Int)=>bif !decide (a=0)then some ((0:Int),(1:Int))else aa (mX f c) λ(b:Int×Bool)=>bif !b.2 then some ((0:Int),(4:Int))else aa (j6 f) λ(d:aA)=>none
def nS(f:aA)(k:Int):Option (cM×Int):=
 aa (ji f) λ(a:Int)=>bif !decide (a=0)then none else bif ((decide (k<0))||(decide ((f.aY.length:Int)<=k)))then none else aa (j6 f) λ(b:aA)=>some ((cM.mk b),(0:Int))
def qZ(f:aA)(k:Int):gA:=
 aa (ji f) λ(a:Int)=>bif !decide (a=0)then some (1:Int)else bif ((decide (k<0))||(decide ((f.aY.length:Int)<=k)))then some (4:Int)else aa (j6 f) λ(b:aA)=>none
def pE(c:bZ)(b:aK):dK:=
 aa (jG b c.Router) λ(a:Bool)=>some (!a)
def pz(t:aK)(c:l5):Option (aA×Int):=
 aa (iW t) λ(q:Int)=>bif !decide (q=0)then some ((aA.mk [] [] []),(1:Int))else aa (nP c (λ(y:bZ)=>pE y t)) λ(s:Bool)=>bif s then some ((aA.mk [] [] []),(4:Int))else bL c 0 (λ(g:Int) (k:bZ) (p:Unit->Option _) ()=>jn (λ(l:Bool)=>bif l then some ((aA.mk [] [] []),(25:Int))else p ()) λe=>(bif decide (0<(g:Int))then aa (b4 c (a1 ((g:Int)-(1:Int)))) λ(f:bZ)=>aa (hI f.Router k.Router) λ(m:Int)=>aa (hI f.Claim.cg k.Claim.cg) λ(n:Int)=>aa (m4 ([m,n]:bR)) λ(w:Int)=>e (decide (0<=w))else e false)) (λ(r:Unit)=>match r with|()=>aa (mO t.Links) λ(h:(jC))=>bL t.aL 0 (λ(B:Int) (d:bk) (z:(kT)->Option _) (a:(kT))=>bL c 0 (λ(C:Int) (i:bZ) (A:(sL)->Option _) (b:(sL))=>jn (λ(v:(sL))=>A v) λj=>bif decide (i.Router=d.aP)then aa (dr b ([i.Claim]:sL)) λ(o:sL)=>j o else j b) (λ(b:(sL))=>aa (dr a ([(a2.mk d.aP (0:Int) d.bw b (bF.mk []))]:kT)) λ(u:kT)=>z u) []) (λ(a:(kT))=>aa (ji (aA.mk h a [])) λ(x:Int)=>bif !decide (x=0)then some ((aA.mk [] [] []),(1:Int))else some ((aA.mk h a []),(0:Int))) []) ()
def lN(f:aA)(d:Int):Option (aA×Int):=
 dj (mP f d) (λa=>bif !decide (a.2.2=0)then some ((aA.mk [] [] []),a.2.2)else aa (b4 a.1.bg.ay a.2.1) λ(b:a2)=>bif decide (b.Seq=1000000)then some ((aA.mk [] [] []),(7:Int))else aa (fu a.1.bg.ay a.2.1 (a2.mk b.Router (a1 (b.Seq+1)) b.bw b.Claims b.Database)) λ(e:kT)=>aa (mN (cM.mk (aA.mk a.1.bg.Links e a.1.bg.aY)) a.2.1) λ(g:cM)=>some (g.bg,(0:Int)))<|aa (pn f d) λc=>bif !decide (c.2=0)then some ((aA.mk [] [] []),c.2)else none
def ud(f:aA)(g:Int):Option (aA×Int):=
 dj (mP f g) (λa=>bif !decide (a.2.2=0)then some ((aA.mk [] [] []),a.2.2)else aa (b4 a.1.bg.ay a.2.1) λ(b:a2)=>aa (fu a.1.bg.ay a.2.1 (a2.mk b.Router b.Seq b.bw b.Claims (bF.mk []))) λ(e:kT)=>aa (b4 e a.2.1) λ(c:a2)=>aa (fu e a.2.1 (a2.mk c.Router (1:Int) c.bw c.Claims c.Database)) λ(i:kT)=>aa (mN (cM.mk (aA.mk a.1.bg.Links i a.1.bg.aY)) a.2.1) λ(h:cM)=>some (h.bg,(0:Int)))<|aa (pn f g) λd=>bif !decide (d.2=0)then some ((aA.mk [] [] []),d.2)else none
def up(f:aA)(d:Int):Option (aA×Int):=
 dj (mP f d) (λa=>bif !decide (a.2.2=0)then some ((aA.mk [] [] []),a.2.2)else aa (q1 a.1 a.2.1) λ(c:cM)=>bif decide (400<(c.bg.aY.length:Int))then some ((aA.mk [] [] []),(3:Int))else some (c.bg,(0:Int)))<|aa (pn f d) λb=>bif !decide (b.2=0)then some ((aA.mk [] [] []),b.2)else none
def ue(f:aA)(k:Int):Option (aA×Int):=
 dj (nS f k) (λa=>bif !decide (a.2=0)then some ((aA.mk [] [] []),a.2)else aa (kU a.1 k) λ(c:cM)=>some (c.bg,(0:Int)))<|aa (qZ f k) λb=>bif !decide (b=0)then some ((aA.mk [] [] []),b)else none
def uq(f:aA)(k:Int):Option (aA×Int):=
 dj (nS f k) (λa=>bif !decide (a.2=0)then some ((aA.mk [] [] []),a.2)else aa (mK a.1.bg.aY k (a1 (k+1))) λ(c:ng)=>some ((aA.mk a.1.bg.Links a.1.bg.ay c),(0:Int)))<|aa (qZ f k) λb=>bif !decide (b=0)then some ((aA.mk [] [] []),b)else none
def tN(a:bS)(c:aK):dK:=
 aa (pH c a.c4 a.bW) λ(b:Int×Bool)=>some (!b.2)
def mS(f:aA)(D:jC):Option (aA×Int):=
 aa (j6 f) λ(b:aA)=>aa (mO D) λ(i:(jC))=>jn (λ(p:Bool)=>bif p then some ((aA.mk [] [] []),(1:Int))else aa (kW (aA.mk i b.ay b.aY)) λ(x:aK)=>aa (qR b.aY (λ(A:bS)=>tN A x)) λ(v:(ng))=>bL b.ay 0 (λ(g:Int) (E:a2) (t:((jC)×(kT)×(ng))->Option _) (d,c,e)=>jn (λ(h:(jC)×(kT)×(ng))=>match h with|(o,w,B)=>t (o,w,B)) λm=>aa (b4 c (g:Int)) λ(a:a2)=>aa (b4 f.ay (g:Int)) λ(u:a2)=>aa (m2 f u) λ(y:aO×Bool)=>aa (m2 (aA.mk d c e) a) λ(n:aO×Bool)=>jn (λ(z:Bool)=>bif z then aa (fu c (g:Int) (a2.mk a.Router (a1 (a.Seq+1)) a.bw a.Claims a.Database)) λ(s:kT)=>aa (mN (cM.mk (aA.mk d s e)) (g:Int)) λ(j:cM)=>m (j.bg.Links,j.bg.ay,j.bg.aY)else m (d,c,e)) λk=>(bif n.2 then aa (n2 y.1 n.1) λ(C:Bool)=>(bif !C then k (decide (a.Seq<1000000))else k false)else k false)) (λ(h:(jC)×(kT)×(ng))=>match h with|(d,c,e)=>some ((aA.mk d c e),(0:Int))) (i,b.ay,v)) λl=>aa (ji f) λ(q:Int)=>(bif !decide (q=0)then l true else aa (ji (aA.mk i b.ay b.aY)) λ(r:Int)=>l (!decide (r=0)))
def mZ(f:aA):Option (aA×Int):=
 aa (ji f) λ(c:Int)=>bif !decide (c=0)then some ((aA.mk [] [] []),(1:Int))else aa (j6 f) λ(d:aA)=>aa (qW (cM.mk d)) λ(a:cM)=>aa (tD a) λ(b:cM)=>aa (qW b) λ(e:cM)=>some (e.bg,(0:Int))
def tT(n:Int):gA:=
 some (a1 ((2:Int)*(if(1099511627776:Int)<(if(0:Int)>n then(0:Int)else n)then(1099511627776:Int)else(if(0:Int)>n then(0:Int)else n))))
end
end
section
noncomputable section
def nX(f:aA):Option aK:=
 bL f.ay 0 (λ(e:Int) (b:a2) (d:(pK)->Option _) (a:(pK))=>aa (dr a ([(bk.mk b.Router b.bw)]:pK)) λ(c:pK)=>d c) (λ(a:(pK))=>some (aK.mk a f.Links)) []
end
end
section
noncomputable section
def uk(t:aK):dK:=
 aa (iW t) λ(a:Int)=>some (decide (a=0))
def ur(t:aK):Option kY:=
 bL t.aL 0 (λ(v:Int) (k:bk) (l:((List (Int×p4))×(List (Int×p4)))->Option _) (d,e)=>l (bM d k.aP [],bM e k.aP [])) (λ(f:(List (Int×p4))×(List (Int×p4)))=>match f with|(d,e)=>bL t.Links 0 (λ(s:Int) (a:aR) (o:((List (Int×p4))×(List (Int×p4)))->Option _) (b,c)=>aa (dr ((aB b a.A).getD []) ([(cB.mk a.B a.gn)]:p4)) λ(i:p4)=>aa (dr ((aB (bM b a.A i) a.B).getD []) ([(cB.mk a.A a.gd)]:p4)) λ(n:p4)=>aa (dr ((aB c a.B).getD []) ([(cB.mk a.A a.gn)]:p4)) λ(j:p4)=>aa (dr ((aB (bM c a.B j) a.A).getD []) ([(cB.mk a.B a.gd)]:p4)) λ(p:p4)=>o (bM (bM b a.A i) a.B n,bM (bM c a.B j) a.A p)) (λ(f:(List (Int×p4))×(List (Int×p4)))=>match f with|(b,c)=>aa (ou b (λ(g:Int) (u:p4) (h:(List (Int×p4)))=>eU (aB h g).isSome<|aa (hK (dQ [λr:cB=>r.dx]) ((aB h g).getD [])) λ(q:p4)=>some (bM h g q)) b) λ(m:(List (Int×p4)))=>some (kY.mk m c)) (d,e)) (([]:List (Int×p4)),([]:List (Int×p4)))
def lP(h:List (Int×p4))(l:Int):Option (List (Int×Int)):=
 bif !((aB h l).isSome)then some []else jn (λ(o:(List (Int×Int))×(List (Int×Int)))=>match o with|(m,s)=>some m) λj=>fI (λ(n:((List (Int×Int))×(List (Int×Int)))->Option _) (e,a)=>bif decide (0<(a.length:Int))then aa (ou a (λ(k:Int) (i:Int) (f:Int)=>bif ((decide (f=0))||((decide (i<((aB a f).getD (0:Int))))||((decide (i=((aB a f).getD (0:Int))))&&(decide (k<f)))))then some k else some f) (0:Int)) λ(b:Int)=>bif decide (((bM e b ((aB a b).getD (0:Int))).length:Int)=(h.length:Int))then j (bM e b ((aB a b).getD (0:Int)),h4 a b)else bL ((aB h b).getD []) 0 (λ(r:Int) (d:cB) (p:(List (Int×Int))->Option _) (c:(List (Int×Int)))=>jn (λ(q:(List (Int×Int)))=>p q) λg=>bif (aB (bM e b ((aB a b).getD (0:Int))) d.dx).isSome then g c else bif ((!((aB c d.dx).isSome))||(decide (a1 (((aB a b).getD (0:Int))+d.fC)<((aB c d.dx).getD (0:Int)))))then g (bM c d.dx (a1 (((aB a b).getD (0:Int))+d.fC)))else g c) (λ(c:(List (Int×Int)))=>n (bM e b ((aB a b).getD (0:Int)),c)) (h4 a b)else j (e,a)) ([],bM [] l (0:Int))
def q0(g:kY)(b:List (Int×Int))(d:Int):iG:=
 bif !((aB b d).isSome)then some []else bL ((aB g.gY d).getD []) 0 (λ(j:Int) (c:cB) (h:(bR)->Option _) (a:(bR))=>jn (λ(i:(bR))=>h i) λe=>bif (((aB b c.dx).isSome)&&(decide (a1 (c.fC+((aB b c.dx).getD (0:Int)))=((aB b d).getD (0:Int)))))then aa (dr a ([c.dx]:bR)) λ(f:bR)=>e f else e a) (λ(a:(bR))=>some a) []
def mT(t:aK)(g:Int):Option (List (Int×bR)):=
 aa (uk t) λ(f:Bool)=>bif !f then some []else aa (ur t) λ(b:kY)=>aa (lP b.jm g) λ(a:(List (Int×Int)))=>vQ a (λ(c:Int) (h:Int) (d:(List (Int×bR)))=>aa (q0 b a c) λ(e:(bR))=>some (bM d c e))
end
end
section
noncomputable section
def j7(n:Int)(a:Int)(b:Int):dK:=
 some ((decide (a<=n))&&(decide (n<=b)))
def q8(a:bZ):dK:=
 aa (j7 a.Router (1:Int) (99:Int)) λ(d:Bool)=>(bif !d then some true else aa (j7 a.Claim.cg (0:Int) (7:Int)) λ(e:Bool)=>(bif !e then some true else aa (j7 a.Claim.aP (1:Int) (256:Int)) λ(b:Bool)=>(bif !b then some true else aa (pq a.Claim.Length) λ(c:Bool)=>some (!c))))
def rz(l:l5):gA:=
 bif decide (192<(l.length:Int))then some (3:Int)else aa (nP l q8) λ(i:Bool)=>bif i then some (2:Int)else bL l 0 (λ(c:Int) (d:bZ) (h:Unit->Option _) ()=>jn (λ(e:Bool)=>bif e then some (25:Int)else h ()) λa=>(bif decide (0<(c:Int))then aa (b4 l (a1 ((c:Int)-(1:Int)))) λ(b:bZ)=>aa (hI b.Router d.Router) λ(k:Int)=>aa (hI b.Claim.cg d.Claim.cg) λ(f:Int)=>aa (m4 ([k,f]:bR)) λ(g:Int)=>a (decide (0<=g))else a false)) (λ(j:Unit)=>match j with|()=>some (0:Int)) ()
def qX(y:cF)(a:cF):dK:=
 some (decide (y.Router=a.Router))
def lQ(p:eE):dK:=
 jn (λ(e:Bool)=>bif e then some false else bL p.c9 0 (λ(d:Int) (c:cF) (j:Unit->Option _) ()=>aa (gT p.c9 (0:Int) (d:Int)) λ(i:u6)=>aa (qS i (λ(q:cF)=>qX q c)) λ(f:Bool)=>jn (λ(o:Bool)=>bif o then some false else j ()) λb=>aa (j7 c.aP (1:Int) (256:Int)) λ(h:Bool)=>(bif !h then b true else aa (j7 c.Router (1:Int) (99:Int)) λ(n:Bool)=>(bif !n then b true else(bif f then b true else(bif decide (0<(d:Int))then aa (b4 p.c9 (a1 ((d:Int)-(1:Int)))) λ(g:cF)=>b (decide (c.aP<=g.aP))else b false))))) (λ(l:Unit)=>match l with|()=>some true) ()) λa=>aa (j7 p.cg (0:Int) (7:Int)) λ(k:Bool)=>(bif !k then a true else aa (pq p.Length) λ(m:Bool)=>(bif !m then(bif !decide (p.Length=0)then a true else(bif decide (0<(p.c9.length:Int))then a true else a (decide (24<(p.c9.length:Int)))))else a (decide (24<(p.c9.length:Int)))))
def ul(l:l5)(g:Int):Option (eM 257):=
 bL l 0 (λ(h:Int) (b:bZ) (e:(eM 257)->Option _) (a:(eM 257))=>jn (λ(f:(eM 257))=>e f) λc=>bif decide (b.Claim.cg=g)then aa (b4 a.l b.Claim.aP) λ(d:Int)=>c (eM.put a b.Claim.aP.toNat (a1 (d+1)))else c a) (λ(a:(eM 257))=>some a) (eM.zero 257)
def tU(l:l5)(f:Int):gA:=
 aa (rz l) λ(e:Int)=>bif !decide (e=0)then some (0:Int)else bL l 0 (λ(h:Int) (b:bZ) (d:Int->Option _) (a:Int)=>jn (λ(g:Int)=>d g) λc=>bif ((decide (b.Claim.cg=f))&&((decide (a=0))||(decide (b.Claim.Length<a))))then c b.Claim.Length else c a) (λ(a:Int)=>some a) (0:Int)
def pI(l:l5)(b:Int):Option (eE×Int):=
 aa (rz l) λ(e:Int)=>bif !decide (e=0)then some ((eE.mk (0:Int) (0:Int) []),e)else aa (j7 b (0:Int) (7:Int)) λ(o:Bool)=>bif !o then some ((eE.mk (0:Int) (0:Int) []),(2:Int))else aa (tU l b) λ(h:Int)=>aa (ul l b) λ(j:(eM 257))=>bL l 0 (λ(r:Int) (c:bZ) (m:(u6)->Option _) (a:(u6))=>jn (λ(n:(u6))=>m n) λd=>jn (λ(g:Bool)=>bif g then aa (dr a ([(cF.mk c.Router c.Claim.aP)]:u6)) λ(k:u6)=>d k else d a) λf=>(bif decide (c.Claim.cg=b)then aa (b4 j.l c.Claim.aP) λ(i:Int)=>f (decide (i=1))else f false)) (λ(a:(u6))=>bif decide (24<(a.length:Int))then some ((eE.mk (0:Int) (0:Int) []),(3:Int))else aa (hK (dQ [λq:cF=>q.aP]) a) λ(p:u6)=>some ((eE.mk b h p),(0:Int))) []
end
end
section
noncomputable section
def tE(s1:bR)(a:bR):dK:=
 bif !decide ((s1.length:Int)=(a.length:Int))then some false else bL s1 0 (λ(e:Int) (f:Int) (c:Unit->Option _) ()=>aa (b4 a (e:Int)) λ(b:Int)=>bif !decide (f=b)then some false else c ()) (λ(d:Unit)=>match d with|()=>some true) ()
def rF:Nat->Int->(List (Int×bR))->(List (Int×Bool))->(pK)->(jC)->(bR)->Option ((List (Int×Bool))×(bR))
 |0,_,_,_,_,_,_=>none
 |q+1,o,g,p,h,i,r=>bL ((aB g o).getD []) 0 (λ(s:Int) (b:Int) (l:((bR)×(List (Int×Bool)))->Option _) (c,a)=>jn (λ(e:(List (Int×Bool))×(bR))=>match e with|(n,j)=>l (j,n)) λd=>bif ((aB a b).getD false)then d (a,c)else aa (hP (aK.mk h i) b) λ(m:Bool)=>bif m then aa (dr c ([b]:bR)) λ(k:bR)=>d (bM a b true,k)else aa (rF q b g (bM a b true) h i c) λ(f:(List (Int×Bool))×(bR))=>d (f.1,f.2)) (λ(e:(bR)×(List (Int×Bool)))=>match e with|(c,a)=>some (a,c)) (r,p)
def rM(t:aK)(c:List (Int×bR))(b:Int):iG:=
 aa (rF fuel b c [] t.aL t.Links []) λ(a:(List (Int×Bool))×(bR))=>eU (decide (a.2.length<4611686018427387904))<|some (gF a.2)
def rI(t:aK)(p:eE)(cN:bR):Option (List dh):=
 bL cN 0 (λ(x:Int) (u:Int) (l:(sV)->Option _) (a:(sV))=>aa (dr a ([(dh.mk u p.cg p.Length [])]:sV)) λ(k:sV)=>l k) (λ(a:(sV))=>eU (!a.isEmpty&&a.all λv=>v.Rows.isEmpty)<|bL p.c9 0 (λ(w:Int) (d:cF) (r:(sV)->Option _) (g:(sV))=>aa (mT t d.Router) λ(m:(List (Int×bR)))=>bL cN 0 (λ(h:Int) (f:Int) (s:(sV)->Option _) (c:(sV))=>jn (λ(i:(bR))=>aa (b4 c (h:Int)) λ(b:dh)=>aa (dr b.Rows ([(fF.mk d.aP i)]:List fF)) λ(o:List fF)=>aa (fu c (h:Int) (dh.mk b.Router b.cg b.Length o)) λ(q:sV)=>s q) λe=>bif decide (f=d.Router)then e ([f]:bR)else aa (hP t d.Router) λ(n:Bool)=>bif n then aa (rM t m f) λ(j:(bR))=>e j else e []) (λ(c:(sV))=>r c) g) (λ(g:(sV))=>some g) a) []
def lX(t:aK)(p:eE)(a:Int):Option (dh×Int):=
 jn (λ(c:Bool)=>bif c then some ((dh.mk (0:Int) (0:Int) (0:Int) []),(1:Int))else aa (jG t a) λ(d:Bool)=>bif !d then some ((dh.mk (0:Int) (0:Int) (0:Int) []),(4:Int))else aa (hP t a) λ(f:Bool)=>bif !f then some ((dh.mk (0:Int) (0:Int) (0:Int) []),(26:Int))else aa (rI t p ([a]:bR)) λ(i:(sV))=>aa (b4 i (0:Int)) λ(e:dh)=>some (e,(0:Int))) λb=>aa (iW t) λ(g:Int)=>(bif !decide (g=0)then b true else aa (lQ p) λ(h:Bool)=>b (!h))
def pO(t:aK)(p:eE):Option ((sV)×Int):=
 jn (λ(e:Bool)=>bif e then some ([],(1:Int))else bL t.aL 0 (λ(l:Int) (d:bk) (h:(bR)->Option _) (a:(bR))=>jn (λ(k:(bR))=>h k) λc=>bif d.bw then aa (dr a ([d.aP]:bR)) λ(g:bR)=>c g else c a) (λ(a:(bR))=>aa (rI t p a) λ(f:(sV))=>some (f,(0:Int))) []) λb=>aa (iW t) λ(i:Int)=>(bif !decide (i=0)then b true else aa (lQ p) λ(j:Bool)=>b (!j))
def yf(a:fF)(y:fF):dK:=
 (bif decide (a.aP=y.aP)then aa (tE a.Next y.Next) λ(b:Bool)=>some b else some false)
def rN(a:dh)(b:dh):dK:=
 (bif decide (a.Router=b.Router)then(bif decide (a.cg=b.cg)then(bif decide (a.Length=b.Length)then aa (w6 a.Rows b.Rows yf) λ(c:Bool)=>some c else some false)else some false)else some false)
end
end
end
section
open Go Go.Proofs.Tryz
set_option maxRecDepth 100000
set_option linter.all false
variable {l:bR}{r:Bool}
def n1{n:Int}(a:m5 l n=some r):bB prog 47 [] [aj aW l,u n] (.bool r):=by
 refine bq func47 rfl rfl ?_;unfold m5 at a;refine ak [] [(0,aj aW l),(1,u n)] []<|A.seq<|ai [] [] [(5,u 0)]<|A.block<|atz 0 rfl λe=>?_
 obtain⟨h,i,j,k,a⟩:=cO a;refine atx (l:=l) (cD:=0) (B:=h) (K:=i) a (λb=>λ()=>[(0,aj aW l),(1,u n),(5,u b)]) (λb=>λ()=>[]) ?_ ?_ ?_
 .exact c5
 .rintro b m o ⟨⟩ g c a;rw[j]at a;refine A.seq<|ai [(2,Z (bl aW l))] [] [(9,.d ((b:Int)<l.length))] ?_
  refine aJ (cT c)<|A.skip<|A.seq<|A.block<|ai [(2,bh (ix aW (b3 c)))] [9] [(17,.d (m=n))] ?_
  rcases aC a with⟨d,a⟩|⟨d,a⟩
  .refine aJ d<|ak [] [(4,.bool true)] [] ?_
   cases a;exact A.ret aX
  exact aI d<|A.skip<|bu [(1,Z (cQ c e))] [5,17] [(5,u ((b+1:Nat):Int))]<|aV () a
 rintro b ⟨⟩ g f a;rw[k]at a;refine A.seq<|ai [(2,Z (bl aW l))] [] [(9,.d ((b:Int)<l.length))] ?_
 refine aI (cS f)<|A.exit<|ak [] [(4,.bool false)] [] ?_
 cases a;exact A.ret aX
def IW{n:Int}{r:(bR)}(a:uw l n=some r):bB prog 48 [] [aj aW l,u n] (aj aW r):=by
 refine bq func48 rfl rfl ?_;unfold uw at a;refine ak [] [(0,aj aW l),(1,u n)] []<|ai [] [] [(5,u 0)]<|A.seq<|A.block ?_
 obtain⟨B,K,C,a⟩:=iK a;refine atN (F:=B) a (λb=>[(0,aj aW l),(1,u n),(5,u b)]) (λb=>[]) ?_ ?_
 .exact c5
 rintro H b a;rw[C]at a;refine A.seq ?_;obtain⟨o,s,a⟩:=cW a;refine A.J (J:=o) (r:=r) (λc=>[(0,aj aW l),(1,u n),(5,u b),(18,.bool c)]) (λc=>[]) ?_ ?_
 .rcases aC a with⟨e,a⟩|⟨e,a⟩
  .obtain⟨i,E,a⟩:=ah a;exact bu [(2,Z (bl aW l)),(4,Z (ax e)),(7,bh (ix aW E))] [] [(18,.d (i<n))]<|aV (decide (i<n)) a
  exact bu [(2,Z (bl aW l)),(4,Z (ax e))] [] [(18,.bool false)]<|aV false a
 rintro c a;rw[s]at a;rcases aC a with⟨f,a⟩|⟨f,a⟩
 .exact aJ f<|A.skip<|A.block<|bu [] [5,18] [(5,u (a1 (b+1)))]<|aV (a1 (b+1)) a
 refine aI f<|A.exit<|A.seq ?_
 obtain⟨x,y,a⟩:=cW a;refine A.J (J:=x) (r:=r) (λh=>[(0,aj aW l),(1,u n),(5,u b),(32,.bool h)]) (λh=>[]) ?_ ?_
 .rcases aC a with⟨d,a⟩|⟨d,a⟩
  .obtain⟨j,p,a⟩:=ah a;exact bu [(2,Z (bl aW l)),(4,Z (ax d)),(7,bh (ix aW p))] [18] [(32,.d (j=n))]<|aV (decide (j=n)) a
  exact bu [(2,Z (bl aW l)),(4,Z (ax d))] [18] [(32,.bool false)]<|aV false a
 rintro h a;rw[y]at a;rcases aC a with⟨g,a⟩|⟨g,a⟩
 .refine aJ g<|ak [] [(4,aj aW l)] [] ?_
  cases a;exact A.ret aX
 refine aI g<|A.skip<|ai [] [32] [(6,.az)] ?_
 obtain⟨G,q,a⟩:=ah a;obtain⟨v,m,a⟩:=ah a;refine aT [(3,ey (sl aW q)),(4,dH 436 (ap aW (bytes:=8) (by decide) m))] [6] [(6,.own 436)] [] [(436,.slice 3 1 (af aW v) 0 false)] ?_;obtain⟨z,k,a⟩:=ah a;refine aT [(3,dH 437 (ap aW (bytes:=8) (by decide) k))] [1,6] [(6,.own 437)] [436] [(437,.slice 3 1 (af aW z) 0 false)] ?_;obtain⟨I,t,a⟩:=ah a;obtain⟨D,w,a⟩:=ah a;refine ak [(3,ey (Ba aW t)),(4,dH 381 (ap aW (bytes:=8) (by decide) w))] [(4,.own 381)] [(381,.slice 3 1 (af aW D) 0 false)]<|A.ret ?_
 obtain rfl:=cw a;exact atv b0 [.bN [381]] rfl (by kernel_rfl)
def Jd{a:bR}{b:bR}(c:Cl a b=some r):bB prog 52 [] [aj aW a,aj aW b] (.bool r):=by
 refine bq func52 rfl rfl ?_;unfold Cl at c;refine ak [] [(0,aj aW a),(1,aj aW b)] []<|A.seq<|ai [(1,Z (bl aW a)),(3,Z (bl aW b))] [] [(10,.bool (!decide ((a.length:Int)=(b.length:Int))))] ?_
 rcases aC c with⟨f,c⟩|⟨f,c⟩
 .refine aJ f<|ak [] [(4,.bool false)] [] ?_
  cases c;exact A.ret aX
 refine aI f<|A.skip<|A.seq<|ai [] [10] [(5,u 0)]<|A.block<|atz 0 rfl λi=>?_
 obtain⟨m,n,o,p,c⟩:=cO c;refine atx (l:=a) (cD:=0) (B:=m) (K:=n) c (λd=>λ()=>[(0,aj aW a),(1,aj aW b),(5,u d)]) (λd=>λ()=>[]) ?_ ?_ ?_
 .exact c5
 .rintro d q t ⟨⟩ k e c;rw[o]at c;refine A.seq<|ai [(2,Z (bl aW a))] [] [(14,.d ((d:Int)<a.length))] ?_
  refine aJ (cT e)<|A.skip<|A.seq<|A.block ?_
  obtain⟨h,s,c⟩:=ah c;refine ai [(2,bh (ix aW (b3 e))),(6,bh (ix aW s))] [14] [(25,.bool (!decide (q=h)))] ?_;rcases aC c with⟨g,c⟩|⟨g,c⟩
  .refine aJ g<|ak [] [(4,.bool false)] [] ?_
   cases c;exact A.ret aX
  exact aI g<|A.skip<|bu [(1,Z (cQ e i))] [5,25] [(5,u ((d+1:Nat):Int))]<|aV () c
 rintro d ⟨⟩ k j c;rw[p]at c;refine A.seq<|ai [(2,Z (bl aW a))] [] [(14,.d ((d:Int)<a.length))] ?_
 refine aI (cS j)<|A.exit<|ak [] [(4,.bool true)] [] ?_
 cases c;exact A.ret aX
def pG{n:Int}{r:Bool}(c:uL n=some r):bB prog 134 [] [u n] (.bool r):=by
 refine bq func134 rfl rfl ?_;unfold uL at c;refine ak [] [(0,u n)] []<|atA [(2,.bool ((decide (1<=n))&&(decide (n<=1000))))] [] (λb=>?_) ?_
 .rcases eY (decide (1<=n))with a|a
  .exact ak [(2,Z (ax a)),(6,Z (jy (q:=decide (n<=1000)) a))] _ _ b
  exact ak [(2,Z (ax a)),(6,Z (jY (q:=decide (n<=1000)) a))] _ _ b
 cases c;exact A.ret aX
variable {t:aK}
def ye{c:Int}{r:Bool}(a:pN t c=some r):bB prog 135 [] [.agg (bE t),u c] (.bool r):=by
 refine bq func135 rfl rfl ?_;unfold pN at a;refine ak [(0,.al 169)] [(1,u c),(2,.ptr 169 0)] [(169,.cells 41 (bE t))]<|A.seq<|ai [] [] [(5,u 0)]<|A.block<|atM 2 0 rfl rfl rfl λf=>?_
 obtain⟨i,j,k,m,a⟩:=cO a;refine atx (l:=t.aL) (cD:=0) (B:=i) (K:=j) a (λb=>λ()=>[(1,u c),(2,.ptr 169 0),(5,u b)]) (λb=>λ()=>[(169,.cells 41 (bE t))]) ?_ ?_ ?_
 .exact c5
 .rintro b n o ⟨⟩ h d a;rw[k]at a;refine A.seq<|ai [(3,Z (bl bz t.aL))] [] [(10,.d ((b:Int)<t.aL.length))] ?_
  refine aJ (cT d)<|A.skip<|A.seq<|A.block<|ai [(3,bh (ix bz (b3 d)))] [10] [(20,.d (n.aP=c))] ?_
  rcases aC a with⟨e,a⟩|⟨e,a⟩
  .refine aJ e<|ak [] [(4,.bool true)] [] ?_
   cases a;exact A.ret aX
  exact aI e<|A.skip<|bu [(1,Z (cQ d f))] [5,20] [(5,u ((b+1:Nat):Int))]<|aV () a
 rintro b ⟨⟩ h g a;rw[m]at a;refine A.seq<|ai [(3,Z (bl bz t.aL))] [] [(10,.d ((b:Int)<t.aL.length))] ?_
 refine aI (cS g)<|A.exit<|ak [] [(4,.bool false)] [] ?_
 cases a;exact A.ret aX
def I3{d:Int}{c:Int}{r:Int×Bool}(a:uB t d c=some r):bB prog 121 [] [.agg (bE t),u d,u c] (.bP [u r.1,.bool r.2]):=by
 refine bq func121 rfl rfl ?_;unfold uB at a;refine ak [(0,.al 141)] [(1,u d),(2,u c),(3,.ptr 141 0)] [(141,.cells 41 (bE t))]<|A.seq<|ai [] [] [(8,u 0)]<|A.block<|atM 3 1 rfl rfl rfl λm=>?_
 obtain⟨p,s,v,w,a⟩:=cO a;refine atx (l:=t.Links) (cD:=0) (B:=p) (K:=s) a (λe=>λ()=>[(1,u d),(2,u c),(3,.ptr 141 0),(8,u e)]) (λe=>λ()=>[(141,.cells 41 (bE t))]) ?_ ?_ ?_
 .exact c5
 .rintro e b x ⟨⟩ o i a;rw[v]at a;refine A.seq<|ai [(3,Z (bl aD t.Links))] [] [(14,.d ((e:Int)<t.Links.length))] ?_
  refine aJ (cT i)<|A.skip<|A.seq<|A.block<|aT [(3,bh (ix aD (b3 i))),(5,.al 248)] [14] [(9,.ptr 248 0)] [] [(248,.cells 101 (dG b))]<|A.seq<|atA [(1,u d),(2,u c),(3,.ptr 141 0),(8,u e),(9,.ptr 248 0),(31,.bool ((decide (b.A=d))&&(decide (b.B=c))))] [(141,.cells 41 (bE t)),(248,.cells 101 (dG b))] (λh=>?_) ?_
  .rcases eY (decide (b.A=d))with g|g
   .exact ak [(4,Z (ax g)),(9,Z (jy (q:=decide (b.B=c)) g))] _ _ h
   exact ak [(4,Z (ax g)),(9,Z (jY (q:=decide (b.B=c)) g))] _ _ h
  rcases aC a with⟨j,a⟩|⟨j,a⟩
  .refine aJ j<|ak [] [(6,u b.gn),(7,.bool true)] [] ?_
   cases a;exact A.ret aX
  refine aI j<|A.skip<|atA [(1,u d),(2,u c),(3,.ptr 141 0),(8,u e),(9,.ptr 248 0),(43,.bool ((decide (b.B=d))&&(decide (b.A=c))))] [(141,.cells 41 (bE t)),(248,.cells 101 (dG b))] (λh=>?_) ?_
  .rcases eY (decide (b.B=d))with f|f
   .exact ak [(4,Z (ax f)),(9,Z (jy (q:=decide (b.A=c)) f))] _ _ h
   exact ak [(4,Z (ax f)),(9,Z (jY (q:=decide (b.A=c)) f))] _ _ h
  rcases aC a with⟨k,a⟩|⟨k,a⟩
  .refine aJ k<|ak [] [(6,u b.gd),(7,.bool true)] [] ?_
   cases a;exact A.ret aX
  exact aI k<|A.skip<|bX [(1,Z (cQ i m))] [8,9,43] [(8,u ((e+1:Nat):Int))] [248] []<|aV () a
 rintro e ⟨⟩ o n a;rw[w]at a;refine A.seq<|ai [(3,Z (bl aD t.Links))] [] [(14,.d ((e:Int)<t.Links.length))] ?_
 refine aI (cS n)<|A.exit<|ak [] [(6,u 0),(7,.bool false)] [] ?_
 cases a;exact A.ret aX
def B6{r:Int}(a:pL t=some r):bB prog 65 [] [.agg (bE t)] (u r):=by
 refine bq func65 rfl rfl ?_;unfold pL at a;refine ak [(0,.al 16)] [(1,.ptr 16 0)] [(16,.cells 41 (bE t))]<|A.seq<|atA [(1,.ptr 16 0),(21,.bool ((decide (24<(t.aL.length:Int)))||(decide (60<(t.Links.length:Int)))))] [(16,.cells 41 (bE t))] (λd=>?_) ?_
 .rcases eY (decide (24<(t.aL.length:Int)))with o|o
  .exact ak [(2,Z (bl bz t.aL)),(4,Z (ax o)),(9,Z (g0 (q:=decide (60<(t.Links.length:Int))) o))] _ _ d
  exact ak [(2,Z (bl bz t.aL)),(4,Z (ax o)),(7,Z (bl aD t.Links)),(9,Z (eS (q:=decide (60<(t.Links.length:Int))) o))] _ _ d
 rcases aC a with⟨E,a⟩|⟨E,a⟩
 .refine aJ E<|ak [] [(2,u 3)] [] ?_
  cases a;exact A.ret aX
 refine aI E<|A.skip<|A.seq<|ai [] [21] [(3,u 0)]<|A.block<|atM 1 0 rfl rfl rfl λaj=>?_
 obtain⟨aq,ar,au,av,a⟩:=cO a;refine atx (l:=t.aL) (cD:=0) (B:=aq) (K:=ar) a (λe=>λ()=>[(1,.ptr 16 0),(3,u e)]) (λe=>λ()=>[(16,.cells 41 (bE t))]) ?_ ?_ ?_
 .exact c5
 .rintro e w b7 ⟨⟩ ao m a;rw[au]at a;refine A.seq<|ai [(3,Z (bl bz t.aL))] [] [(26,.d ((e:Int)<t.aL.length))] ?_
  refine aJ (cT m)<|A.skip<|A.seq<|A.block<|atA [(1,.ptr 16 0),(3,u e),(44,.bool ((decide (w.aP<1))||(decide (99<w.aP))))] [(16,.cells 41 (bE t))] (λd=>?_) ?_
  .rcases eY (decide (w.aP<1))with n|n
   .exact ak [(3,bh (ix bz (b3 m))),(7,Z (ax n)),(15,Z (g0 (q:=decide (99<w.aP)) n))] _ _ d
   exact ak [(3,bh (ix bz (b3 m))),(7,Z (ax n)),(11,bh (ix bz (b3 m))),(15,Z (eS (q:=decide (99<w.aP)) n))] _ _ d
  rcases aC a with⟨I,a⟩|⟨I,a⟩
  .refine aJ I<|ak [] [(2,u 2)] [] ?_
   cases a;exact A.ret aX
  exact aI I<|A.skip<|bu [(1,Z (cQ m aj))] [3,44] [(3,u ((e+1:Nat):Int))]<|aV () a
 rintro e ⟨⟩ ao am a;rw[av]at a;refine A.seq<|ai [(3,Z (bl bz t.aL))] [] [(26,.d ((e:Int)<t.aL.length))] ?_
 refine aI (cS am)<|A.exit<|A.seq<|ai [] [3,26] [(4,u 1)]<|A.block<|atM 1 0 rfl rfl rfl λaG=>?_
 obtain⟨aM,aW,aQ,aU,a⟩:=cO a;refine atx (l:=t.aL) (cD:=1) (B:=aM) (K:=aW) a (λi=>λ()=>[(1,.ptr 16 0),(4,u i)]) (λi=>λ()=>[(16,.cells 41 (bE t))]) ?_ ?_ ?_
 .exact c5
 .rintro i b1 cd ⟨⟩ aF F a;rw[aQ]at a;refine A.seq<|ai [(3,Z (bl bz t.aL))] [] [(49,.d ((i:Int)<t.aL.length))] ?_
  refine aJ (cT F)<|A.skip<|A.seq<|A.block ?_
  obtain⟨ab,b2,a⟩:=ah a;refine ai [(4,bh (ix bz b2)),(10,bh (ix bz (b3 F)))] [49] [(65,.d (b1.aP<=ab.aP))] ?_;rcases aC a with⟨G,a⟩|⟨G,a⟩
  .refine aJ G<|ak [] [(2,u 25)] [] ?_
   cases a;exact A.ret aX
  exact aI G<|A.skip<|bu [(1,Z (cQ F aG))] [4,65] [(4,u ((i+1:Nat):Int))]<|aV () a
 rintro i ⟨⟩ aF aw a;rw[aU]at a;refine A.seq<|ai [(3,Z (bl bz t.aL))] [] [(49,.d ((i:Int)<t.aL.length))] ?_
 refine aI (cS aw)<|A.exit<|A.seq<|ai [] [4,49] [(5,u 0)]<|A.block<|atM 1 1 rfl rfl rfl λa0=>?_
 obtain⟨a4,a5,a6,a7,a⟩:=cO a;refine atx (l:=t.Links) (cD:=0) (B:=a4) (K:=a5) a (λf=>λ()=>[(1,.ptr 16 0),(5,u f)]) (λf=>λ()=>[(16,.cells 41 (bE t))]) ?_ ?_ ?_
 .exact c5
 .rintro f H ci ⟨⟩ a3 P a;rw[a6]at a;refine A.seq<|ai [(3,Z (bl aD t.Links))] [] [(70,.d ((f:Int)<t.Links.length))] ?_
  refine aJ (cT P)<|A.skip<|A.seq<|A.block<|aT [(3,bh (ix aD (b3 P))),(5,.al 448)] [70] [(6,.ptr 448 0)] [] [(448,.cells 101 (dG H))] ?_
  obtain⟨Y,ae,a⟩:=cW a;refine A.J (J:=Y) (r:=r) (λC=>[(1,.ptr 16 0),(5,u f),(97,.bool C)]) (λC=>[(16,.cells 41 (bE t))]) ?_ ?_
  .obtain⟨b8,x,a⟩:=ah a;rcases aC a with⟨p,a⟩|⟨p,a⟩
   .exact bX [(2,aH (pG x) oH),(4,Z (ax p))] [6] [(97,.bool true)] [448] []<|aV true a
   obtain⟨ca,D,a⟩:=ah a;rcases aC a with⟨y,a⟩|⟨y,a⟩
   .exact bX [(2,aH (pG x) oH),(4,Z (ax p)),(7,aH (pG D) oH),(10,Z (ax y))] [6] [(97,.bool true)] [448] []<|aV true a
   rcases aC a with⟨L,a⟩|⟨L,a⟩
   .exact bX [(2,aH (pG x) oH),(4,Z (ax p)),(7,aH (pG D) oH),(10,Z (ax y)),(15,Z (ax L))] [6] [(97,.bool true)] [448] []<|aV true a
   exact bX [(2,aH (pG x) oH),(4,Z (ax p)),(7,aH (pG D) oH),(10,Z (ax y)),(15,Z (ax L))] [6] [(97,.d (1000<H.dW))] [448] []<|aV (decide (1000<H.dW)) a
  rintro C a;rw[ae]at a;rcases aC a with⟨O,a⟩|⟨O,a⟩
  .refine aJ O<|ak [] [(2,u 2)] [] ?_
   cases a;exact A.ret aX
  exact aI O<|A.skip<|bu [(1,Z (cQ P a0))] [5,97] [(5,u ((f+1:Nat):Int))]<|aV () a
 rintro f ⟨⟩ a3 a1 a;rw[a7]at a;refine A.seq<|ai [(3,Z (bl aD t.Links))] [] [(70,.d ((f:Int)<t.Links.length))] ?_
 refine aI (cS a1)<|A.exit<|A.seq<|ai [] [5,70] [(7,u 0)]<|A.block<|atM 1 1 rfl rfl rfl λbo=>?_
 obtain⟨ba,bb,bi,bj,a⟩:=cO a;refine atx (l:=t.Links) (cD:=0) (B:=ba) (K:=bb) a (λg=>λ()=>[(1,.ptr 16 0),(7,u g)]) (λg=>λ()=>[(16,.cells 41 (bE t))]) ?_ ?_ ?_
 .exact c5
 .rintro g ce cj ⟨⟩ bp s a;rw[bi]at a;refine A.seq<|ai [(3,Z (bl aD t.Links))] [] [(102,.d ((g:Int)<t.Links.length))] ?_
  refine aJ (cT s)<|A.skip<|A.seq<|A.block ?_
  obtain⟨an,aE,a⟩:=cW a;refine A.J (J:=an) (r:=r) (λM=>[(1,.ptr 16 0),(7,u g),(124,.bool M)]) (λM=>[(16,.cells 41 (bE t))]) ?_ ?_
  .obtain⟨b4,U,a⟩:=ah a;rcases aC a with⟨N,a⟩|⟨N,a⟩
   .exact bu [(4,bh (ix aD (b3 s))),(7,aH (ye U) wC),(9,Z (ax N))] [102] [(124,.bool true)]<|aV true a
   obtain⟨V,X,a⟩:=ah a;exact bu [(4,bh (ix aD (b3 s))),(7,aH (ye U) wC),(9,Z (ax N)),(14,bh (ix aD (b3 s))),(17,aH (ye X) wC)] [102] [(124,.bool (!V))]<|aV (!V) a
  rintro M a;rw[aE]at a;rcases aC a with⟨Q,a⟩|⟨Q,a⟩
  .refine aJ Q<|ak [] [(2,u 4)] [] ?_
   cases a;exact A.ret aX
  exact aI Q<|A.skip<|bu [(1,Z (cQ s bo))] [7,124] [(7,u ((g+1:Nat):Int))]<|aV () a
 rintro g ⟨⟩ bp a9 a;rw[bj]at a;refine A.seq<|ai [(3,Z (bl aD t.Links))] [] [(102,.d ((g:Int)<t.Links.length))] ?_
 refine aI (cS a9)<|A.exit<|A.seq<|ai [] [7,102] [(8,u 0)]<|A.block<|atM 1 1 rfl rfl rfl λbM=>?_
 obtain⟨br,bt,bA,bD,a⟩:=cO a;refine atx (l:=t.Links) (cD:=0) (B:=br) (K:=bt) a (λk=>λ()=>[(1,.ptr 16 0),(8,u k)]) (λk=>λ()=>[(16,.cells 41 (bE t))]) ?_ ?_ ?_
 .exact c5
 .rintro k W cm ⟨⟩ bY z a;rw[bA]at a;refine A.seq<|ai [(3,Z (bl aD t.Links))] [] [(129,.d ((k:Int)<t.Links.length))] ?_
  refine aJ (cT z)<|A.skip<|A.seq<|A.block<|ai [(3,bh (ix aD (b3 z))),(9,bh (ix aD (b3 z)))] [129] [(144,.d (W.B<=W.A))] ?_
  rcases aC a with⟨S,a⟩|⟨S,a⟩
  .refine aJ S<|ak [] [(2,u 8)] [] ?_
   cases a;exact A.ret aX
  exact aI S<|A.skip<|bu [(1,Z (cQ z bM))] [8,144] [(8,u ((k+1:Nat):Int))]<|aV () a
 rintro k ⟨⟩ bY a8 a;rw[bD]at a;refine A.seq<|ai [(3,Z (bl aD t.Links))] [] [(129,.d ((k:Int)<t.Links.length))] ?_
 refine aI (cS a8)<|A.exit<|A.seq<|ai [] [8,129] [(9,u 1)]<|A.block<|atM 1 1 rfl rfl rfl λbT=>?_
 obtain⟨bs,bv,bC,bK,a⟩:=cO a;refine atx (l:=t.Links) (cD:=1) (B:=bs) (K:=bv) a (λh=>λ()=>[(1,.ptr 16 0),(9,u h)]) (λh=>λ()=>[(16,.cells 41 (bE t))]) ?_ ?_ ?_
 .exact c5
 .rintro h c cn ⟨⟩ b0 T a;rw[bC]at a;refine A.seq<|ai [(3,Z (bl aD t.Links))] [] [(149,.d ((h:Int)<t.Links.length))] ?_
  refine aJ (cT T)<|A.skip<|A.seq<|A.block ?_
  obtain⟨b,af,a⟩:=ah a;refine aT [(4,bh (ix aD af)),(9,bh (ix aD (b3 T))),(11,.al 449),(12,.al 450)] [149] [(10,.ptr 449 0),(11,.ptr 450 0)] [] [(449,.cells 101 (dG b)),(450,.cells 101 (dG c))]<|atA [(1,.ptr 16 0),(9,u h),(181,.bool ((decide (c.A<b.A))||((decide (b.A=c.A))&&(decide (c.B<=b.B)))))] [(16,.cells 41 (bE t))] (λd=>?_) ?_
  .rcases eY (decide (c.A<b.A))with j|j
   .exact ak [(5,Z (ax j)),(18,Z (g0 (q:=((decide (b.A=c.A))&&(decide (c.B<=b.B)))) j))] _ _ d
   rcases eY (decide (b.A=c.A))with v|v
   .exact ak [(5,Z (ax j)),(11,Z (ax v)),(18,Z ((jy (q:=decide (c.B<=b.B)) v).trans (eS (q:=((decide (b.A=c.A))&&(decide (c.B<=b.B)))) j)))] _ _ d
   exact ak [(5,Z (ax j)),(11,Z (ax v)),(18,Z ((jY (q:=decide (c.B<=b.B)) v).trans (eS (q:=((decide (b.A=c.A))&&(decide (c.B<=b.B)))) j)))] _ _ d
  rcases aC a with⟨R,a⟩|⟨R,a⟩
  .refine aJ R<|ak [] [(2,u 25)] [] ?_
   cases a;exact A.ret aX
  exact aI R<|A.skip<|bu [(1,Z (cQ T bT))] [9,181] [(9,u ((h+1:Nat):Int))]<|aV () a
 rintro h ⟨⟩ b0 bV a;rw[bK]at a;refine A.seq<|ai [(3,Z (bl aD t.Links))] [] [(149,.d ((h:Int)<t.Links.length))] ?_
 refine aI (cS bV)<|A.exit<|ak [] [(2,u 0)] [] ?_
 cases a;exact A.ret aX
def JM{b:Int}{n:Int}{r:Int}(a:vm b n=some r):bB prog 36 [] [u b,u n] (u r):=by
 refine bq func36 rfl rfl ?_;unfold vm at a;refine ak [] [(0,u b),(1,u n)] []<|A.seq<|ai [] [] [(6,.d (n<1))] ?_
 rcases aC a with⟨d,a⟩|⟨d,a⟩
 .refine aJ d<|ak [] [(4,u 0)] [] ?_
  cases a;exact A.ret aX
 refine aI d<|A.skip ?_
 obtain⟨h,a⟩:=hA a;refine ai [(2,.qr n (of_decide_eq_true h))] [0,6] [(0,u (Int.tmod b n))] ?_;obtain⟨f,g,a⟩:=cW a;refine A.J (J:=f) (r:=r) (λc=>[(0,u c)]) (λc=>[]) ?_ ?_
 .refine ai [] [] [(11,.d (Int.tmod b n<0))] ?_;rcases aC a with⟨e,a⟩|⟨e,a⟩
  .exact aJ e<|jP [] [(0,u (a1 ((Int.tmod b n)+n)))] []<|aV (a1 ((Int.tmod b n)+n)) a
  exact aI e<|A.skip<|aV (Int.tmod b n) a
 rintro c a;rw[g]at a;refine ak [] [(4,u c)] [] ?_;cases a;exact A.ret aX
variable {r:Int×bH}
def I4{t:bH}(b:uC t=some r):cp prog 37 [(1,.cells 73 (cn t))] [.ptr 1 0] (λa e=>a=u r.1/\e=[(1,.cells 73 (cn r.2))]):=by
 refine bq func37 rfl rfl ?_;unfold uC at b;refine ak [] [(0,.ptr 1 0)] [(1,.cells 73 (cn t))]<|A.seq<|ai [(8,Z (bl aW t.L))] [] [(12,.d ((t.L.length:Int)<=t.At))] ?_
 rcases aC b with⟨c,b⟩|⟨c,b⟩
 .refine aJ c<|ai [] [0,12] [(2,u 0)] ?_
  cases b;exact A.ret aX
 refine aI c<|A.skip<|aT [] [12] [] [1] [(1,.c 73 [aj aW t.L,u (a1 (t.At+1))])] ?_
 obtain⟨d,f,b⟩:=ah b;refine ai [(9,bh (ix aW f))] [0] [(2,u d)] ?_;cases b;exact A.ret aX
def g1{t:bH}{n:Int}(b:gr t n=some r):cp prog 7 [(1,.cells 73 (cn t))] [.ptr 1 0,u n] (λa e=>a=u r.1/\e=[(1,.cells 73 (cn r.2))]):=by
 refine bq func7 rfl rfl ?_;unfold gr at b;refine ak [] [(0,.ptr 1 0),(1,u n)] [(1,.cells 73 (cn t))] ?_;obtain⟨d,g,b⟩:=ah b;obtain⟨f,c,b⟩:=ah b;refine ak [(1,bV [] (I4 g) Rl),(3,aH (JM c) Rk)] [(4,u f)] [(1,.cells 73 (cn d.2))] ?_;cases b;exact A.ret aX
def xN{t:bH}{low:Int}{high:Int}(b:nV t low high=some r):cp prog 20 [(1,.cells 73 (cn t))] [.ptr 1 0,u low,u high] (λa d=>a=u r.1/\d=[(1,.cells 73 (cn r.2))]):=by
 refine bq func20 rfl rfl ?_;unfold nV at b;refine ak [] [(0,.ptr 1 0),(1,u low),(2,u high)] [(1,.cells 73 (cn t))] ?_;obtain⟨c,e,b⟩:=ah b;refine ak [(6,bV [] (g1 e) g2)] [(6,u (a1 (low+c.1)))] [(1,.cells 73 (cn c.2))] ?_;cases b;exact A.ret aX
variable {Xh:Int}{r:Bool}{t:aK}
def ux(a:rS t Xh=some r):bB prog 92 [] [.agg (bE t),u Xh] (.bool r):=by
 refine bq func92 rfl rfl ?_;unfold rS at a;refine ak [(0,.al 462)] [(1,u Xh),(2,.ptr 462 0)] [(462,.cells 41 (bE t))] ?_;obtain⟨f,c,a⟩:=ah a;rcases aC a with⟨b,a⟩|⟨b,a⟩
 .obtain⟨e,d,a⟩:=ah a;refine ak [(1,aH (B6 c) A5),(3,Z (ax b)),(6,aH (ye d) wC)] [(4,.bool e)] [] ?_;cases a;exact A.ret aX
 refine ak [(1,aH (B6 c) A5),(3,Z (ax b))] [(4,.bool false)] [] ?_;cases a;exact A.ret aX
def Je{r:(bR)}(a:uM t Xh=some r):bB prog 46 [] [.agg (bE t),u Xh] (aj aW r):=by
 refine bq func46 rfl rfl ?_;unfold uM at a;refine ak [(0,.al 119)] [(1,u Xh),(2,.ptr 119 0)] [(119,.cells 41 (bE t))]<|ai [] [] [(5,.az)]<|A.seq<|ai [] [] [(6,u 0)]<|A.block<|atM 2 0 rfl rfl rfl λm=>?_
 obtain⟨p,q,s,v,a⟩:=cO a;refine atx (l:=t.aL) (cD:=0) (B:=p) (K:=q) a (λb=>λc=>[(1,u Xh),(2,.ptr 119 0),(5,.own 147),(6,u b)]) (λb=>λc=>[(119,.cells 41 (bE t)),(147,.slice 3 1 (af aW c) 0 false)]) ?_ ?_ ?_
 .exact ct [.ad 5 147 3 1] []
 .rintro b y x c o d a;rw[s]at a;refine A.seq<|ai [(3,Z (bl bz t.aL))] [] [(13,.d ((b:Int)<t.aL.length))] ?_
  refine aJ (cT d)<|A.skip ?_
  obtain⟨i,k,a⟩:=cW a;refine A.J (J:=i) (r:=r) (λe=>[(1,u Xh),(2,.ptr 119 0),(5,.own 147),(6,u b)]) (λe=>[(119,.cells 41 (bE t)),(147,.slice 3 1 (af aW e) 0 false)]) ?_ ?_
  .refine A.block ?_;obtain⟨h,w,a⟩:=ah a;refine ai [(5,bh (ix bz (b3 d))),(8,aH (I3 w) Qp)] [13] [(8,.bool h.2)]<|ai [] [8] [(28,.bool h.2)] ?_
   rcases aC a with⟨f,a⟩|⟨f,a⟩
   .refine aJ f ?_;obtain⟨g,j,a⟩:=ah a;exact bX [(4,bh (ix bz (b3 d))),(8,dH 380 (ap aW (bytes:=8) (by decide) j))] [5,28] [(5,.own 380)] [147] [(380,.slice 3 1 (af aW g) 0 false)]<|Exists.intro g (And.intro a (ct [.b5 380 147] []))
   exact aI f<|A.skip<|aV c a
  rintro e a;rw[k]at a;exact bu [(1,Z (cQ d m))] [6] [(6,u ((b+1:Nat):Int))]<|aV e a
 rintro b c o n a;rw[v]at a;refine A.seq<|ai [(3,Z (bl bz t.aL))] [] [(13,.d ((b:Int)<t.aL.length))] ?_
 refine aI (cS n)<|A.exit<|aT [] [1,2,5,6,13] [(4,.own 147)] [119] []<|A.ret ?_
 obtain rfl:=cw a;exact atv b0 [.bN [147]] rfl (by kernel_rfl)
variable {a b:Int}
def I5{l:List gJ}(e:uD l a b=some r):bB prog 66 [] [aj gP l,u a,u b] (.bool r):=by
 refine bq func66 rfl rfl ?_;unfold uD at e;refine ak [] [(0,aj gP l),(1,u a),(2,u b)] []<|A.seq<|ai [] [] [(7,u 0)]<|A.block<|atz 0 rfl λn=>?_
 obtain⟨s,t,v,w,e⟩:=cO e;refine atx (l:=l) (cD:=0) (B:=s) (K:=t) e (λg=>λ()=>[(0,aj gP l),(1,u a),(2,u b),(7,u g)]) (λg=>λ()=>[]) ?_ ?_ ?_
 .exact c5
 .rintro g c z ⟨⟩ p d e;rw[v]at e;refine A.seq<|ai [(2,Z (bl gP l))] [] [(11,.d ((g:Int)<l.length))] ?_
  refine aJ (cT d)<|A.skip<|A.seq<|A.block<|atA [(0,aj gP l),(1,u a),(2,u b),(7,u g),(47,.bool (bif decide (c.c4=a)then((decide (c.bW=b))||((decide (c.c4=b))&&(decide (c.bW=a))))else((decide (c.c4=b))&&(decide (c.bW=a)))))] [] (λk=>?_) ?_
  .rcases eY (decide (c.c4=a))with f|f
   .rcases eY (decide (c.bW=b))with h|h
    .exact ak [(2,bh (ix gP (b3 d))),(7,Z (ax f)),(10,bh (ix gP (b3 d))),(16,Z (ax h)),(33,Z ((g0 (q:=((decide (c.c4=b))&&(decide (c.bW=a)))) h).trans (BE (x:=((decide (c.bW=b))||((decide (c.c4=b))&&(decide (c.bW=a))))) (y:=((decide (c.c4=b))&&(decide (c.bW=a)))) f)))] _ _ k
    rcases eY (decide (c.c4=b))with i|i
    .exact ak [(2,bh (ix gP (b3 d))),(7,Z (ax f)),(10,bh (ix gP (b3 d))),(16,Z (ax h)),(19,bh (ix gP (b3 d))),(24,Z (ax i)),(27,bh (ix gP (b3 d))),(33,Z (((jy (q:=decide (c.bW=a)) i).trans (eS (q:=((decide (c.c4=b))&&(decide (c.bW=a)))) h)).trans (BE (x:=((decide (c.bW=b))||((decide (c.c4=b))&&(decide (c.bW=a))))) (y:=((decide (c.c4=b))&&(decide (c.bW=a)))) f)))] _ _ k
    exact ak [(2,bh (ix gP (b3 d))),(7,Z (ax f)),(10,bh (ix gP (b3 d))),(16,Z (ax h)),(19,bh (ix gP (b3 d))),(24,Z (ax i)),(33,Z (((jY (q:=decide (c.bW=a)) i).trans (eS (q:=((decide (c.c4=b))&&(decide (c.bW=a)))) h)).trans (BE (x:=((decide (c.bW=b))||((decide (c.c4=b))&&(decide (c.bW=a))))) (y:=((decide (c.c4=b))&&(decide (c.bW=a)))) f)))] _ _ k
   rcases eY (decide (c.c4=b))with j|j
   .exact ak [(2,bh (ix gP (b3 d))),(7,Z (ax f)),(19,bh (ix gP (b3 d))),(24,Z (ax j)),(27,bh (ix gP (b3 d))),(33,Z ((jy (q:=decide (c.bW=a)) j).trans (Ht (x:=((decide (c.bW=b))||((decide (c.c4=b))&&(decide (c.bW=a))))) (y:=((decide (c.c4=b))&&(decide (c.bW=a)))) f)))] _ _ k
   exact ak [(2,bh (ix gP (b3 d))),(7,Z (ax f)),(19,bh (ix gP (b3 d))),(24,Z (ax j)),(33,Z ((jY (q:=decide (c.bW=a)) j).trans (Ht (x:=((decide (c.bW=b))||((decide (c.c4=b))&&(decide (c.bW=a))))) (y:=((decide (c.c4=b))&&(decide (c.bW=a)))) f)))] _ _ k
  rcases aC e with⟨m,e⟩|⟨m,e⟩
  .refine aJ m<|ak [] [(6,.bool true)] [] ?_
   cases e;exact A.ret aX
  exact aI m<|A.skip<|bu [(1,Z (cQ d n))] [7,47] [(7,u ((g+1:Nat):Int))]<|aV () e
 rintro g ⟨⟩ p o e;rw[w]at e;refine A.seq<|ai [(2,Z (bl gP l))] [] [(11,.d ((g:Int)<l.length))] ?_
 refine aI (cS o)<|A.exit<|ak [] [(6,.bool false)] [] ?_
 cases e;exact A.ret aX
def IA{f:gC}{r:aK}(a:uo t f=some r):bB prog 17 [] [.agg (bE t),.agg (ki f)] (.agg (bE r)):=by
 refine bq func17 rfl rfl ?_;unfold uo at a;refine ak [(0,.al 49),(1,.al 50),(2,.al 43)] [(2,.ptr 49 0),(3,.ptr 50 0),(4,.ptr 43 0)] [(49,.cells 41 (bE t)),(50,.cells 65 (ki f)),(43,.c 41 [.az,.az])]<|A.seq ?_
 obtain⟨E,ao,a⟩:=ah a;refine ai [(1,aH (B6 ao) A5)] [] [(11,.bool (!decide (E=0)))] ?_;rcases aC a with⟨n,a⟩|⟨n,a⟩
 .refine aJ n<|aT [] [2,3,11] [] [49,50] [] ?_
  cases a;exact A.ret aX
 refine aI n<|A.skip<|aT [(0,.al 56)] [11] [(5,.ptr 56 0)] [] [(56,.c 41 [.az,.az])]<|A.seq<|ai [] [] [(6,u 0)]<|A.block<|atM 2 0 rfl rfl rfl λM=>?_
 obtain⟨Q,R,S,T,a⟩:=cO a;refine atx (l:=t.aL) (cD:=0) (B:=Q) (K:=R) a (λd=>λc=>[(2,.ptr 49 0),(3,.ptr 50 0),(4,.ptr 43 0),(5,.ptr 56 0),(6,u d)]) (λd=>λc=>[(49,.cells 41 (bE t)),(50,.cells 65 (ki f)),(43,.c 41 [.az,.az]),(56,.c 41 [.own 68,.az]),(68,.slice 79 2 (af bz c) 0 false)]) ?_ ?_ ?_
 .exact ct [.ac 56 68 79 2 0] []
 .rintro d aw au c P h a;rw[S]at a;refine A.seq<|ai [(3,Z (bl bz t.aL))] [] [(17,.d ((d:Int)<t.aL.length))] ?_
  refine aJ (cT h)<|A.skip ?_
  obtain⟨C,H,a⟩:=cW a;refine A.J (J:=C) (r:=r) (λj=>[(2,.ptr 49 0),(3,.ptr 50 0),(4,.ptr 43 0),(5,.ptr 56 0),(6,u d)]) (λj=>[(49,.cells 41 (bE t)),(50,.cells 65 (ki f)),(43,.c 41 [.az,.az]),(56,.c 41 [.own 68,.az]),(68,.slice 79 2 (af bz j) 0 false)]) ?_ ?_
  .refine A.block ?_;obtain⟨G,D,a⟩:=ah a;refine ai [(5,bh (ix bz (b3 h))),(8,aH (n1 D) nH)] [17] [(29,.bool (!G))] ?_;rcases aC a with⟨o,a⟩|⟨o,a⟩
   .refine aJ o ?_;obtain⟨w,F,a⟩:=ah a;exact bX [(5,bh (ix bz (b3 h))),(8,dH 363 (ap bz (bytes:=16) (by decide) F))] [29] [] [56,68] [(56,.c 41 [.own 363,.az]),(363,.slice 79 2 (af bz w) 0 false)]<|Exists.intro w (And.intro a (ct [.b5 363 68] []))
   exact aI o<|A.skip<|aV c a
  rintro j a;rw[H]at a;exact bu [(1,Z (cQ h M))] [6] [(6,u ((d+1:Nat):Int))]<|aV j a
 rintro d c P N a;rw[T]at a;refine A.seq<|ai [(3,Z (bl bz t.aL))] [] [(17,.d ((d:Int)<t.aL.length))] ?_
 refine aI (cS N)<|A.exit<|A.seq<|ai [] [6,17] [(7,u 0)]<|A.block<|atM 2 1 rfl rfl rfl λX=>?_
 obtain⟨ab,am,ae,aj,a⟩:=cO a;refine atx (l:=t.Links) (cD:=0) (B:=ab) (K:=am) a (λb=>λe=>[(2,.ptr 49 0),(3,.ptr 50 0),(4,.ptr 43 0),(5,.ptr 56 0),(7,u b)]) (λb=>λe=>[(49,.cells 41 (bE t)),(50,.cells 65 (ki f)),(43,.c 41 [.az,.az]),(56,.c 41 [.own 68,.own 113]),(68,.slice 79 2 (af bz c) 0 false),(113,.slice 101 5 (af aD e) 0 false)]) ?_ ?_ ?_
 .exact ct [.ac 56 113 101 5 1] []
 .rintro b z av e W p a;rw[ae]at a;refine A.seq<|ai [(3,Z (bl aD t.Links))] [] [(44,.d ((b:Int)<t.Links.length))] ?_
  refine aJ (cT p)<|A.skip ?_
  obtain⟨O,V,a⟩:=cW a;refine A.J (J:=O) (r:=r) (λg=>[(2,.ptr 49 0),(3,.ptr 50 0),(4,.ptr 43 0),(5,.ptr 56 0),(7,u b)]) (λg=>[(49,.cells 41 (bE t)),(50,.cells 65 (ki f)),(43,.c 41 [.az,.az]),(56,.c 41 [.own 68,.own 113]),(68,.slice 79 2 (af bz c) 0 false),(113,.slice 101 5 (af aD g) 0 false)]) ?_ ?_
  .refine A.block<|aT [(3,bh (ix aD (b3 p))),(5,.al 202)] [44] [(8,.ptr 202 0)] [] [(202,.cells 101 (dG z))] ?_
   obtain⟨Y,an,a⟩:=cW a;refine A.J (J:=Y) (r:=r) (λk=>[(2,.ptr 49 0),(3,.ptr 50 0),(4,.ptr 43 0),(5,.ptr 56 0),(7,u b),(8,.ptr 202 0),(75,.bool k)]) (λk=>[(49,.cells 41 (bE t)),(50,.cells 65 (ki f)),(43,.c 41 [.az,.az]),(56,.c 41 [.own 68,.own 113]),(68,.slice 79 2 (af bz c) 0 false),(113,.slice 101 5 (af aD e) 0 false),(202,.cells 101 (dG z))]) ?_ ?_
   .obtain⟨aq,m,a⟩:=ah a;rcases aC a with⟨i,a⟩|⟨i,a⟩
    .obtain⟨ar,v,a⟩:=ah a;rcases aC a with⟨s,a⟩|⟨s,a⟩
     .obtain⟨y,I,a⟩:=ah a;exact bu [(4,aH (n1 m) nH),(6,Z (ax i)),(11,aH (n1 v) nH),(14,Z (ax s)),(21,aH (I5 I) Rx)] [] [(75,.bool (!y))]<|aV (!y) a
     exact bu [(4,aH (n1 m) nH),(6,Z (ax i)),(11,aH (n1 v) nH),(14,Z (ax s))] [] [(75,.bool false)]<|aV false a
    exact bu [(4,aH (n1 m) nH),(6,Z (ax i))] [] [(75,.bool false)]<|aV false a
   rintro k a;rw[an]at a;rcases aC a with⟨q,a⟩|⟨q,a⟩
   .refine aJ q ?_;obtain⟨x,L,a⟩:=ah a;exact bX [(4,dH 364 (ap aD (bytes:=40) (by decide) L))] [8,75] [] [56,113,202] [(56,.c 41 [.own 68,.own 364]),(364,.slice 101 5 (af aD x) 0 false)]<|Exists.intro x (And.intro a (ct [.b5 364 113] []))
   exact aI q<|A.skip<|aV e a
  rintro g a;rw[V]at a;exact bu [(1,Z (cQ p X))] [7] [(7,u ((b+1:Nat):Int))]<|aV g a
 rintro b e W U a;rw[aj]at a;refine A.seq<|ai [(3,Z (bl aD t.Links))] [] [(44,.d ((b:Int)<t.Links.length))] ?_
 refine aI (cS U)<|A.exit<|aT [] [2,3,5,7,44] [] [49,50,43,56] [(43,.c 41 [.own 68,.own 113])]<|A.ret ?_
 obtain rfl:=cw a;exact atv b0 [.bN [68,113]] rfl (by kernel_rfl)
def Ia{r:(bR)}(a:pJ t Xh=some r):bB prog 10 [] [.agg (bE t),u Xh] (aj aW r):=by
 refine bq func10 rfl rfl ?_;unfold pJ at a;refine ak [(0,.al 89)] [(1,u Xh),(2,.ptr 89 0)] [(89,.cells 41 (bE t))]<|aT [(1,.al 280)] [1] [(5,.own 280)] [] [(280,.slice 3 1 (af aW ([Xh]:bR)) 0 false)]<|A.seq<|ai [] [] [(6,u 0)]<|A.block ?_
 obtain⟨N,am,O,a⟩:=iK a;refine atN (F:=N) a (λ(b,e)=>[(2,.ptr 89 0),(5,.own 67),(6,u e)]) (λ(b,e)=>[(89,.cells 41 (bE t)),(67,.slice 3 1 (af aW b) 0 false)]) ?_ ?_
 .exact ct [.b5 280 67] []
 rintro X ⟨b,e⟩ a;rw[O]at a;refine A.seq<|ai [(2,Z (bl aW b))] [] [(16,.d (e<(b.length:Int)))] ?_
 rcases aC a with⟨m,a⟩|⟨m,a⟩
 .refine aJ m<|A.skip<|A.seq<|A.block ?_
  obtain⟨W,q,a⟩:=ah a;obtain⟨d,x,a⟩:=ah a;refine ai [(3,bh (ix aW q)),(4,eK 67 0 (ix aW q)),(5,aH (Je x) Rn)] [16] [(7,aj aW d)]<|ai [] [] [(8,u 0)]<|A.block<|atz 7 rfl λG=>?_
  obtain⟨H,M,I,L,a⟩:=cO a;refine atx (l:=d) (cD:=0) (B:=H) (K:=M) a (λc=>λg=>[(2,.ptr 89 0),(5,.own 67),(6,u e),(7,aj aW d),(8,u c)]) (λc=>λg=>[(89,.cells 41 (bE t)),(67,.slice 3 1 (af aW g) 0 false)]) ?_ ?_ ?_
  .exact c5
  .rintro c an ab g E i a;rw[I]at a;refine A.seq<|ai [(2,Z (bl aW d))] [] [(28,.d ((c:Int)<d.length))] ?_
   refine aJ (cT i)<|A.skip ?_
   obtain⟨w,C,a⟩:=cW a;refine A.J (J:=w) (r:=r) (λj=>[(2,.ptr 89 0),(5,.own 67),(6,u e),(7,aj aW d),(8,u c)]) (λj=>[(89,.cells 41 (bE t)),(67,.slice 3 1 (af aW j) 0 false)]) ?_ ?_
   .refine A.block ?_;obtain⟨z,y,a⟩:=ah a;refine ai [(3,bh (ix aW (b3 i))),(5,bp [67] (n1 y) nH)] [28] [(37,.bool (!z))] ?_;rcases aC a with⟨n,a⟩|⟨n,a⟩
    .refine aJ n ?_;obtain⟨p,v,a⟩:=ah a;exact bX [(3,bh (ix aW (b3 i))),(6,dH 356 (ap aW (bytes:=8) (by decide) v))] [5,37] [(5,.own 356)] [67] [(356,.slice 3 1 (af aW p) 0 false)]<|Exists.intro p (And.intro a (ct [.b5 356 67] []))
    exact aI n<|A.skip<|aV g a
   rintro j a;rw[C]at a;exact bu [(1,Z (cQ i G))] [8] [(8,u ((c+1:Nat):Int))]<|aV j a
  rintro c g E D a;rw[L]at a;refine A.seq<|ai [(2,Z (bl aW d))] [] [(28,.d ((c:Int)<d.length))] ?_
  exact aI (cS D)<|A.exit<|bu [] [6,7,8,28] [(6,u (a1 (e+1)))]<|aV (g,a1 (e+1)) a
 refine aI m<|A.exit<|aT [] [2,6,16] [(9,.az)] [89] []<|A.seq<|ai [] [] [(10,u 0)]<|A.block<|aun 5 rfl rfl λP=>?_
 obtain⟨S,T,U,V,a⟩:=cO a;refine atx (l:=b) (cD:=0) (B:=S) (K:=T) a (λf=>λh=>[(5,.own 67),(9,aj aW h),(10,u f)]) (λf=>λh=>[(67,.slice 3 1 (af aW b) 0 false)]) ?_ ?_ ?_
 .exact ct [] [9]
 .rintro f Y ae h R k a;rw[U]at a;refine A.seq<|ai [(2,Z (bl aW b))] [] [(48,.d ((f:Int)<b.length))] ?_
  refine aJ (cT k)<|A.skip<|A.seq<|A.block ?_
  obtain⟨o,s,a⟩:=ah a;exact bu [(3,bh (ix aW (b3 k))),(4,eK 67 0 (ix aW (b3 k))),(5,aH (IW s) Ro)] [9,48] [(9,aj aW o)]<|bu [(1,Z (cQ k P))] [10] [(10,u ((f+1:Nat):Int))]<|Exists.intro o (And.intro a (ct [] [9]))
 rintro f h R Q a;rw[V]at a;refine A.seq<|ai [(2,Z (bl aW b))] [] [(48,.d ((f:Int)<b.length))] ?_
 refine aI (cS Q)<|A.exit<|ak [] [(4,aj aW h)] [] ?_
 cases a;exact A.ret aX
def Io(c:tO t a b=some r):bB prog 38 [] [.agg (bE t),u a,u b] (.bool r):=by
 refine bq func38 rfl rfl ?_;unfold tO at c;refine ak [(0,.al 433)] [(1,u a),(2,u b),(3,.ptr 433 0)] [(433,.cells 41 (bE t))] ?_;obtain⟨l,f,c⟩:=ah c;rcases aC c with⟨d,c⟩|⟨d,c⟩
 .obtain⟨m,g,c⟩:=ah c;rcases aC c with⟨e,c⟩|⟨e,c⟩
  .obtain⟨k,j,c⟩:=ah c;obtain⟨i,h,c⟩:=ah c;refine ak [(2,aH (ux f) sW),(3,Z (ax d)),(6,aH (ux g) sW),(8,Z (ax e)),(11,aH (Ia j) GW),(13,aH (n1 h) nH)] [(6,.bool i)] [] ?_;cases c;exact A.ret aX
  refine ak [(2,aH (ux f) sW),(3,Z (ax d)),(6,aH (ux g) sW),(8,Z (ax e))] [(6,.bool false)] [] ?_;cases c;exact A.ret aX
 refine ak [(2,aH (ux f) sW),(3,Z (ax d))] [(6,.bool false)] [] ?_;cases c;exact A.ret aX
variable {l:bR}{r:Int×bH}{t:bH}
def lS(b:jj t l=some r):cp prog 80 [(1,.cells 73 (cn t))] [.ptr 1 0,aj aW l] (λa f=>a=u r.1/\f=[(1,.cells 73 (cn r.2))]):=by
 refine bq func80 rfl rfl ?_;unfold jj at b;refine ak [] [(0,.ptr 1 0),(1,aj aW l)] [(1,.cells 73 (cn t))] ?_;obtain⟨e,g,b⟩:=ah b;obtain⟨c,d,b⟩:=ah b;refine ak [(3,Z (bl aW l)),(4,bV [] (g1 g) g2),(5,bh (ix aW d))] [(4,u c)] [(1,.cells 73 (cn e.2))] ?_;cases b;exact A.ret aX
def px{n:Int}{r:Bool×bH}(b:lW t n=some r):cp prog 81 [(1,.cells 73 (cn t))] [.ptr 1 0,u n] (λa d=>a=.bool r.1/\d=[(1,.cells 73 (cn r.2))]):=by
 refine bq func81 rfl rfl ?_;unfold lW at b;refine ak [] [(0,.ptr 1 0),(1,u n)] [(1,.cells 73 (cn t))] ?_;obtain⟨c,e,b⟩:=ah b;refine ak [(2,bV [] (g1 e) g2)] [(4,.d (c.1=a1 (n-1)))] [(1,.cells 73 (cn c.2))] ?_;cases b;exact A.ret aX
def B2(b:uy t=some r):cp prog 83 [(1,.cells 73 (cn t))] [.ptr 1 0] (λa d=>a=u r.1/\d=[(1,.cells 73 (cn r.2))]):=by
 refine bq func83 rfl rfl ?_;unfold uy at b;refine ak [] [(0,.ptr 1 0)] [(1,.cells 73 (cn t))] ?_;obtain⟨c,e,b⟩:=ah b;refine ak [(2,bV [] (lS e) mu)] [(2,u c.1)] [(1,.cells 73 (cn c.2))] ?_;cases b;exact A.ret aX
def II(b:uf t=some r):cp prog 89 [(1,.cells 73 (cn t))] [.ptr 1 0] (λa d=>a=u r.1/\d=[(1,.cells 73 (cn r.2))]):=by
 refine bq func89 rfl rfl ?_;unfold uf at b;refine ak [] [(0,.ptr 1 0)] [(1,.cells 73 (cn t))] ?_;obtain⟨c,e,b⟩:=ah b;refine ak [(2,bV [] (lS e) mu)] [(2,u c.1)] [(1,.cells 73 (cn c.2))] ?_;cases b;exact A.ret aX
def Jq{l:jC}{r:(jC)}(b:uV l=some r):cp prog 82 [] [aj aD l] (λa x=>a=.own 26/\x=[(26,.slice 101 5 (af aD r) 0 false)]):=by
 refine bq func82 rfl rfl ?_;unfold uV at b;refine ak [] [(0,aj aD l)] []<|ai [] [] [(3,.az)]<|A.seq<|ai [] [] [(4,u 0)]<|A.block<|atz 0 rfl λD=>?_
 obtain⟨H,I,L,M,b⟩:=cO b;refine atx (l:=l) (cD:=0) (B:=H) (K:=I) b (λe=>λc=>[(0,aj aD l),(3,.own 70),(4,u e)]) (λe=>λc=>[(70,.slice 101 5 (af aD c) 0 false)]) ?_ ?_ ?_
 .exact ct [.ad 3 70 101 5] []
 .rintro e p R c G f b;rw[L]at b;refine A.seq<|ai [(2,Z (bl aD l))] [] [(10,.d ((e:Int)<l.length))] ?_
  refine aJ (cT f)<|A.skip<|A.seq<|A.block<|ai [] [10] [(5,u 0)]<|A.seq<|A.block ?_
  obtain⟨O,U,P,b⟩:=iK b;refine atN (F:=O) b (λg=>[(0,aj aD l),(3,.own 70),(4,u e),(5,u g)]) (λg=>[(70,.slice 101 5 (af aD c) 0 false)]) ?_ ?_
  .exact c5
  rintro S g b;rw[P]at b;refine A.seq ?_;obtain⟨t,y,b⟩:=cW b;refine A.J (J:=t) (r:=r) (λj=>[(0,aj aD l),(3,.own 70),(4,u e),(5,u g),(55,.bool j)]) (λj=>[(70,.slice 101 5 (af aD c) 0 false)]) ?_ ?_
  .rcases aC b with⟨h,b⟩|⟨h,b⟩
   .obtain⟨n,d,b⟩:=ah b;rcases aC b with⟨i,b⟩|⟨i,b⟩
    .exact bu [(2,Z (bl aD c)),(4,Z (ax h)),(7,bh (ix aD d)),(9,eK 70 0 (ix aD d)),(12,bh (ix aD (b3 f))),(16,Z (ax i))] [] [(55,.bool true)]<|aV true b
    rcases aC b with⟨k,b⟩|⟨k,b⟩
    .exact bu [(2,Z (bl aD c)),(4,Z (ax h)),(7,bh (ix aD d)),(9,eK 70 0 (ix aD d)),(12,bh (ix aD (b3 f))),(16,Z (ax i)),(19,bh (ix aD d)),(21,eK 70 0 (ix aD d)),(24,bh (ix aD (b3 f))),(28,Z (ax k)),(31,bh (ix aD d)),(33,eK 70 1 (ix aD d)),(36,bh (ix aD (b3 f)))] [] [(55,.d (n.B<p.B))]<|aV (decide (n.B<p.B)) b
    exact bu [(2,Z (bl aD c)),(4,Z (ax h)),(7,bh (ix aD d)),(9,eK 70 0 (ix aD d)),(12,bh (ix aD (b3 f))),(16,Z (ax i)),(19,bh (ix aD d)),(21,eK 70 0 (ix aD d)),(24,bh (ix aD (b3 f))),(28,Z (ax k))] [] [(55,.bool false)]<|aV false b
   exact bu [(2,Z (bl aD c)),(4,Z (ax h))] [] [(55,.bool false)]<|aV false b
  rintro j b;rw[y]at b;rcases aC b with⟨m,b⟩|⟨m,b⟩
  .exact aJ m<|A.skip<|A.block<|bu [] [5,55] [(5,u (a1 (g+1)))]<|aV (a1 (g+1)) b
  refine aI m<|A.exit<|ai [] [55] [(6,.az)] ?_
  obtain⟨Q,v,b⟩:=ah b;obtain⟨C,w,b⟩:=ah b;refine atV b0 [.bN [70]] [(3,ey (sl aD v)),(4,dH 459 (ap aD (bytes:=40) (by decide) w))] [(0,aj aD l),(3,.own 70),(4,u e),(5,u g),(6,.own 459)] [(70,.slice 101 5 (af aD c) (af aD c).length true),(459,.slice 101 5 (af aD C) 0 false)] (by kernel_rfl) ?_;obtain⟨N,s,b⟩:=ah b;refine ak [(3,bh (ix aD (b3 f))),(6,dH 460 (ap aD (bytes:=40) (by decide) s))] [(0,aj aD l),(3,.own 70),(4,u e),(5,u g),(6,.own 460)] [(70,.slice 101 5 (af aD c) (af aD c).length true),(460,.slice 101 5 (af aD N) 0 false)] ?_;obtain⟨T,q,b⟩:=ah b;obtain⟨o,z,b⟩:=ah b;exact bX [(3,ey (Ba aD q)),(4,dH 306 (ap aD (bytes:=40) (by decide) z))] [3,5,6] [(3,.own 306)] [70,460] [(306,.slice 101 5 (af aD o) 0 false)]<|bu [(1,Z (cQ f D))] [4] [(4,u ((e+1:Nat):Int))]<|Exists.intro o (And.intro b (ct [.b5 306 70] []))
 rintro e c G E b;rw[M]at b;refine A.seq<|ai [(2,Z (bl aD l))] [] [(10,.d ((e:Int)<l.length))] ?_
 refine aI (cS E)<|A.exit<|ai [] [0,3,4,10] [(2,.own 70)]<|A.ret ?_
 obtain rfl:=cw b;exact atv b0 [.b5 70 26] rfl (by kernel_rfl)
def JN{r:bH}(b:vn l=some r):cp prog 5 [] [aj aW l] (λa g=>a=.ptr 1 0/\g=[(1,.cells 73 (cn r))]):=by
 refine bq func5 rfl rfl ?_;unfold vn at b;refine ak [] [(0,aj aW l)] [] ?_;obtain⟨f,h,b⟩:=cW b;refine A.J (J:=f) (r:=r) (λc=>[(0,aj aW c)]) (λc=>[]) ?_ ?_
 .refine ai [(1,Z (bl aW l))] [] [(5,.d (600<(l.length:Int)))] ?_;rcases aC b with⟨d,b⟩|⟨d,b⟩
  .refine aJ d ?_;obtain⟨e,i,b⟩:=ah b;exact jP [(1,ey (sl aW i))] [(0,aj aW e)] []<|Exists.intro e (And.intro b (ct [] [0]))
  exact aI d<|A.skip<|Exists.intro l (And.intro b (ct [] [0]))
 rintro c b;rw[h]at b;refine ak [(2,.al 382)] [(2,.ptr 382 0)] [(382,.c 73 [aj aW c,u 0])]<|A.ret ?_
 obtain rfl:=cw b;exact atv b0 [.b5 382 1] rfl (by kernel_rfl)
def S0{a0:Int}{n:Int}{r:aK×bH}(b:tV t a0 n=some r):cp prog 30 [(1,.cells 73 (cn t))] [.ptr 1 0,u a0,u n] (λa bB=>a=.agg [.own 24,.own 25]/\bB=[(1,.cells 73 (cn r.2)),(24,.slice 79 2 (af bz r.1.aL) 0 false),(25,.slice 101 5 (af aD r.1.Links) 0 false)]):=by
 refine bq func30 rfl rfl ?_;unfold tV at b;refine ak [(0,.al 13)] [(0,.ptr 1 0),(1,u a0),(2,u n),(6,.ptr 13 0)] [(1,.cells 73 (cn t)),(13,.c 41 [.az,.az])]<|aT [(0,.al 14)] [] [(7,.ptr 14 0)] [] [(14,.c 41 [.az,.az])] ?_
 obtain⟨f,dJ,b⟩:=ah b;refine aT [(2,bV [] (xN dJ) wY)] [1] [(8,u f.1)] [1] [(1,.cells 73 (cn f.2))]<|A.seq<|ai [] [] [(9,u 1)]<|A.block ?_
 obtain⟨cY,b⟩:=hA b;obtain⟨bY,b1,b2,b3,b⟩:=pS b;refine at2 (hi:=(f.1+1)) (B:=bY) (K:=b1) b rfl (λi=>λd=>[(0,.ptr 1 0),(2,u n),(6,.ptr 13 0),(7,.ptr 14 0),(8,u f.1),(9,u i)]) (λi=>λd=>[(1,.cells 73 (cn f.2)),(13,.c 41 [.az,.az]),(14,.c 41 [.own 15,.az]),(15,.slice 79 2 (af bz d) 0 false)]) ?_ ?_ ?_
 .exact ct [.ac 14 15 79 2 0] []
 .rintro i dL d bT a1 b;rw[b2]at b;refine A.seq<|ai [] [] [(21,.d ((i:Int)<=f.1))] ?_
  refine atS rfl (BL a1)<|A.skip<|A.seq<|A.block ?_
  obtain⟨a3,bv,b⟩:=ah b;exact bX [(5,dH 285 (ap bz (bytes:=16) (by decide) bv))] [21] [] [14,15] [(14,.c 41 [.own 285,.az]),(285,.slice 79 2 (af bz a3) 0 false)]<|bu [(1,Z (o5 (by omega) a1 (of_decide_eq_true cY)))] [9] [(9,u (i+1:Int))]<|Exists.intro a3 (And.intro b (ct [.b5 285 15] []))
 rintro i d bT bK b;rw[b3]at b;refine A.seq<|ai [] [] [(21,.d ((i:Int)<=f.1))] ?_
 refine atI rfl (Bx bK)<|A.exit ?_
 obtain⟨l,bA,b⟩:=ah b;refine aT [(2,bV [] (lS bA) mu)] [9,21] [(10,u l.1)] [1] [(1,.cells 73 (cn l.2))]<|A.seq<|ai [] [] [(11,u 2)]<|A.block ?_
 obtain⟨dG,b⟩:=hA b;obtain⟨ce,cu,ci,cj,b⟩:=pS b;refine at2 (hi:=(f.1+1)) (B:=ce) (K:=cu) b rfl (λg=>λ(C,w,p)=>[(0,.ptr 1 0),(2,u n),(6,.ptr 13 0),(7,.ptr 14 0),(8,u f.1),(10,u l.1),(11,u g)]) (λg=>λ(C,w,p)=>[(1,.c 73 [aj aW w,u p]),(13,.c 41 [.az,.az]),(14,.c 41 [.own 15,.own 42]),(15,.slice 79 2 (af bz d) 0 false),(42,.slice 101 5 (af aD C) 0 false)]) ?_ ?_ ?_
 .exact ct [.ac 14 42 101 5 1] []
 .rintro g dX ⟨C,w,p⟩ b8 a4 b;rw[ci]at b;refine A.seq<|ai [] [] [(36,.d ((g:Int)<=f.1))] ?_
  refine atS rfl (BL a4)<|A.skip<|A.seq<|A.block ?_
  obtain⟨q,bs,b⟩:=ah b;refine aT [(3,bV [] (xN bs) wY)] [36] [(12,u q.1)] [1] [(1,.cells 73 (cn q.2))] ?_;obtain⟨s,br,b⟩:=ah b;refine aT [(1,bV [] (px br) oZ)] [] [(13,.bool s.1)] [1] [(1,.cells 73 (cn s.2))]<|ai [] [] [(14,u 1)]<|A.block ?_
  obtain⟨dI,b⟩:=hA b;obtain⟨cK,cN,cP,cQ,b⟩:=pS b;refine at2 (hi:=(g:Int)) (B:=cK) (K:=cN) b rfl (λh=>λ(j,m,o)=>[(0,.ptr 1 0),(2,u n),(6,.ptr 13 0),(7,.ptr 14 0),(8,u f.1),(10,u l.1),(11,u g),(12,u q.1),(13,.bool s.1),(14,u h)]) (λh=>λ(j,m,o)=>[(1,.c 73 [aj aW m,u o]),(13,.c 41 [.az,.az]),(14,.c 41 [.own 15,.own 42]),(15,.slice 79 2 (af bz d) 0 false),(42,.slice 101 5 (af aD j) 0 false)]) ?_ ?_ ?_
  .exact c5
  .rintro h dY ⟨j,m,o⟩ cJ a7 b;rw[cP]at b;refine A.seq<|ai [] [] [(47,.d ((h:Int)<g))] ?_
   refine atS rfl (decide_eq_true a7)<|A.skip ?_
   obtain⟨bt,bC,b⟩:=cW b;refine A.J (J:=bt) (r:=r) (λ(E,G,F)=>[(0,.ptr 1 0),(2,u n),(6,.ptr 13 0),(7,.ptr 14 0),(8,u f.1),(10,u l.1),(11,u g),(12,u q.1),(13,.bool s.1),(14,u h)]) (λ(E,G,F)=>[(1,.c 73 [aj aW E,u G]),(13,.c 41 [.az,.az]),(14,.c 41 [.own 15,.own 42]),(15,.slice 79 2 (af bz d) 0 false),(42,.slice 101 5 (af aD F) 0 false)]) ?_ ?_
   .refine A.block ?_;obtain⟨bM,b7,b⟩:=cW b;refine A.J (J:=bM) (r:=r) (λ(Q,H,I)=>[(0,.ptr 1 0),(2,u n),(6,.ptr 13 0),(7,.ptr 14 0),(8,u f.1),(10,u l.1),(11,u g),(12,u q.1),(13,.bool s.1),(14,u h),(60,.bool Q)]) (λ(Q,H,I)=>[(1,.c 73 [aj aW H,u I]),(13,.c 41 [.az,.az]),(14,.c 41 [.own 15,.own 42]),(15,.slice 79 2 (af bz d) 0 false),(42,.slice 101 5 (af aD j) 0 false)]) ?_ ?_
    .rcases aC b with⟨D,b⟩|⟨D,b⟩
     .rcases aC b with⟨S,b⟩|⟨S,b⟩
      .exact bu [(3,Z (ax D)),(7,Z (ax S))] [47] [(60,.bool true)]<|aV (true,m,o) b
      obtain⟨x,bD,b⟩:=ah b;exact bX [(3,Z (ax D)),(7,Z (ax S)),(9,bV [] (px bD) oZ)] [47] [(60,.bool x.1)] [1] [(1,.cells 73 (cn x.2))]<|aV (x.1,x.2.L,x.2.At) b
     obtain⟨v,bE,b⟩:=ah b;exact bX [(3,Z (ax D)),(9,bV [] (px bE) oZ)] [47] [(60,.bool v.1)] [1] [(1,.cells 73 (cn v.2))]<|aV (v.1,v.2.L,v.2.At) b
    rintro⟨Q,H,I⟩ b;rw[b7]at b;rcases aC b with⟨R,b⟩|⟨R,b⟩
    .refine aJ R ?_;obtain⟨dQ,cv,b⟩:=ah b;obtain⟨dN,cm,b⟩:=ah b;obtain⟨am,cy,b⟩:=ah b;obtain⟨a5,cA,b⟩:=ah b;exact bX [(6,bV [] (xN cv) wY),(9,bV [] (xN cm) wY),(11,bV [] (g1 cy) g2),(14,dH 370 (ap aD (bytes:=40) (by decide) cA))] [60] [] [1,14,42] [(1,.cells 73 (cn am.2)),(14,.c 41 [.own 15,.own 370]),(370,.slice 101 5 (af aD a5) 0 false)]<|Exists.intro (am.2.L,am.2.At,a5) (And.intro b (ct [.b5 370 42] []))
    exact aI R<|A.skip<|aV (H,I,j) b
   rintro⟨E,G,F⟩ b;rw[bC]at b;exact bu [(1,Z (o5 (by omega) a7 (of_decide_eq_true dI)))] [14] [(14,u (h+1:Int))]<|aV (F,E,G) b
  rintro h ⟨j,m,o⟩ cJ cG b;rw[cQ]at b;refine A.seq<|ai [] [] [(47,.d ((h:Int)<g))] ?_
  exact atI rfl (xk cG)<|A.exit<|bu [(1,Z (o5 (by omega) a4 (of_decide_eq_true dG)))] [11,12,13,14,47] [(11,u (g+1:Int))]<|aV (j,m,o) b
 rintro g ⟨C,w,p⟩ b8 b4 b;rw[cj]at b;refine A.seq<|ai [] [] [(36,.d ((g:Int)<=f.1))] ?_
 refine atI rfl (Bx b4)<|A.exit ?_
 obtain⟨c,cD,b⟩:=ah b;refine aT [(2,hV [42] [26] (Jq cD) RA ⟨iw aD (λ_=>rfl) _,trivial⟩)] [8,10,11,36] [] [14,42] [(14,.c 41 [.own 15,.own 26]),(26,.slice 101 5 (af aD c) 0 false)] ?_;obtain⟨cd,cC,b⟩:=cW b;refine A.J (J:=cd) (r:=r) (λ(ao,ar,au,aM)=>[(6,.ptr 13 0),(7,.ptr 14 0)]) (λ(ao,ar,au,aM)=>[(1,.c 73 [aj aW ao,u ar]),(13,.c 41 [.az,.az]),(14,.c 41 [.own 15,.own 42]),(15,.slice 79 2 (af bz au) 0 false),(42,.slice 101 5 (af aD aM) 0 false)]) ?_ ?_
 .obtain⟨c3,dC,b⟩:=cW b;refine A.J (J:=c3) (r:=r) (λ(W,N,L)=>[(0,.ptr 1 0),(6,.ptr 13 0),(7,.ptr 14 0),(87,.bool W)]) (λ(W,N,L)=>[(1,.c 73 [aj aW N,u L]),(13,.c 41 [.az,.az]),(14,.c 41 [.own 15,.own 26]),(15,.slice 79 2 (af bz d) 0 false),(26,.slice 101 5 (af aD c) 0 false)]) ?_ ?_
  .rcases aC b with⟨U,b⟩|⟨U,b⟩
   .obtain⟨y,cO,b⟩:=ah b;exact bX [(2,Z (ax U)),(5,bV [] (px cO) oZ)] [2] [(87,.bool y.1)] [1] [(1,.cells 73 (cn y.2))]<|aV (y.1,y.2.L,y.2.At) b
   exact bu [(2,Z (ax U))] [2] [(87,.bool false)]<|aV (false,w,p) b
  rintro⟨W,N,L⟩ b;rw[dC]at b;rcases aC b with⟨T,b⟩|⟨T,b⟩
  .refine aJ T ?_;obtain⟨e,cS,b⟩:=ah b;refine aT [(1,bV [] (g1 cS) g2)] [87] [(89,u e.1)] [1] [(1,.cells 73 (cn e.2))]<|A.block<|ai [] [] [(101,.d (e.1=0))] ?_
   rcases aC b with⟨X,b⟩|⟨X,b⟩
   .refine aJ X ?_;obtain⟨an,cZ,b⟩:=ah b;obtain⟨a6,c6,b⟩:=ah b;exact bX [(4,bV [] (lS cZ) mu),(7,dH 371 (ap bz (bytes:=16) (by decide) c6))] [0,89,101] [] [1,14,15] [(1,.cells 73 (cn an.2)),(14,.c 41 [.own 371,.own 26]),(371,.slice 79 2 (af bz a6) 0 false)]<|Exists.intro (an.2.L,an.2.At,a6,c) (And.intro b (ct [.b5 371 15,.b5 26 42] []))
   refine aI X<|ai [] [101] [(112,.d (e.1=1))] ?_
   rcases aC b with⟨Y,b⟩|⟨Y,b⟩
   .refine aJ Y ?_;obtain⟨dZ,c8,b⟩:=ah b;obtain⟨aw,da,b⟩:=ah b;obtain⟨a8,db,b⟩:=ah b;exact bX [(3,bV [] (g1 c8) g2),(5,bV [] (g1 da) g2),(8,dH 372 (ap aD (bytes:=40) (by decide) db))] [0,89,112] [] [1,14,26] [(1,.cells 73 (cn aw.2)),(14,.c 41 [.own 15,.own 372]),(372,.slice 101 5 (af aD a8) 0 false)]<|Exists.intro (aw.2.L,aw.2.At,d,a8) (And.intro b (ct [.b5 372 42] []))
   refine aI Y<|ai [] [112] [(124,.d (e.1=2))] ?_
   rcases aC b with⟨V,b⟩|⟨V,b⟩
   .refine aJ V<|ai [(2,Z (bl aD c))] [89,124] [(129,.d (0<(c.length:Int)))] ?_
    rcases aC b with⟨ae,b⟩|⟨ae,b⟩
    .refine aJ ae ?_;obtain⟨ed,c1,b⟩:=ah b;obtain⟨M,cT,b⟩:=ah b;obtain⟨dK,aQ,b⟩:=ah b;obtain⟨a9,cX,b⟩:=ah b;exact bX [(5,Z (bl aD c)),(6,bV [] (g1 c1) g2),(8,bV [] (B2 cT) A7),(9,bh (ix aD aQ)),(11,iY 26 (st aD (off:=2) (ca:=[u M.1]) aQ cX rfl) (jJ aQ).1.1)] [0,129] [] [1,26] [(1,.cells 73 (cn M.2)),(26,.slice 101 5 (af aD a9) 0 false)]<|Exists.intro (M.2.L,M.2.At,d,a9) (And.intro b (ct [.b5 26 42] []))
    exact aI ae<|A.skip<|Exists.intro (e.2.L,e.2.At,d,c) (And.intro b (ct [.b5 26 42] []))
   refine aI V<|ai [] [124] [(141,.d (e.1=3))] ?_
   rcases aC b with⟨ab,b⟩|⟨ab,b⟩
   .refine aJ ab<|ai [(2,Z (bl aD c))] [89,141] [(146,.d (0<(c.length:Int)))] ?_
    rcases aC b with⟨aq,b⟩|⟨aq,b⟩
    .refine aJ aq ?_;obtain⟨ee,dE,b⟩:=ah b;obtain⟨O,dF,b⟩:=ah b;obtain⟨dM,aU,b⟩:=ah b;obtain⟨bb,dp,b⟩:=ah b;exact bX [(5,Z (bl aD c)),(6,bV [] (g1 dE) g2),(8,bV [] (B2 dF) A7),(9,bh (ix aD aU)),(11,iY 26 (st aD (off:=3) (ca:=[u O.1]) aU dp rfl) (jJ aU).1.1)] [0,146] [] [1,26] [(1,.cells 73 (cn O.2)),(26,.slice 101 5 (af aD bb) 0 false)]<|Exists.intro (O.2.L,O.2.At,d,bb) (And.intro b (ct [.b5 26 42] []))
    exact aI aq<|A.skip<|Exists.intro (e.2.L,e.2.At,d,c) (And.intro b (ct [.b5 26 42] []))
   refine aI ab<|ai [] [141] [(158,.d (e.1=4))] ?_
   rcases aC b with⟨aG,b⟩|⟨aG,b⟩
   .refine aJ aG<|ai [(2,Z (bl aD c))] [89,158] [(163,.d (0<(c.length:Int)))] ?_
    rcases aC b with⟨aE,b⟩|⟨aE,b⟩
    .refine aJ aE ?_;obtain⟨eg,dq,b⟩:=ah b;obtain⟨P,dr,b⟩:=ah b;obtain⟨ea,aX,b⟩:=ah b;obtain⟨bi,dt,b⟩:=ah b;exact bX [(5,Z (bl aD c)),(6,bV [] (g1 dq) g2),(8,bV [] (B2 dr) A7),(9,bh (ix aD aX)),(11,iY 26 (st aD (off:=4) (ca:=[u P.1]) aX dt rfl) (jJ aX).1.1)] [0,163] [] [1,26] [(1,.cells 73 (cn P.2)),(26,.slice 101 5 (af aD bi) 0 false)]<|Exists.intro (P.2.L,P.2.At,d,bi) (And.intro b (ct [.b5 26 42] []))
    exact aI aE<|A.skip<|Exists.intro (e.2.L,e.2.At,d,c) (And.intro b (ct [.b5 26 42] []))
   refine aI aG<|ai [] [89,158] [(175,.d (e.1=5))] ?_
   rcases aC b with⟨aH,b⟩|⟨aH,b⟩
   .refine aJ aH<|ai [(2,Z (bl aD c))] [175] [(180,.d (0<(c.length:Int)))] ?_
    rcases aC b with⟨aF,b⟩|⟨aF,b⟩
    .refine aJ aF ?_;obtain⟨av,du,b⟩:=ah b;obtain⟨ep,bp,b⟩:=ah b;obtain⟨bj,dv,b⟩:=ah b;exact bX [(7,Z (bl aD c)),(8,bV [] (g1 du) g2),(9,bh (ix aD bp)),(10,eK 26 0 (ix aD bp)),(12,dH 373 (ap aD (bytes:=40) (by decide) dv))] [0,180] [] [1,14,26] [(1,.cells 73 (cn av.2)),(14,.c 41 [.own 15,.own 373]),(373,.slice 101 5 (af aD bj) 0 false)]<|Exists.intro (av.2.L,av.2.At,d,bj) (And.intro b (ct [.b5 373 42] []))
    exact aI aF<|A.skip<|Exists.intro (e.2.L,e.2.At,d,c) (And.intro b (ct [.b5 26 42] []))
   refine aI aH<|ai [] [0,175] [(15,u 50)]<|A.block ?_
   obtain⟨dd,dg,di,dj,b⟩:=pS b;refine at2 (hi:=(75:Int)) (B:=dd) (K:=dg) b rfl (λk=>λz=>[(6,.ptr 13 0),(7,.ptr 14 0),(15,u k)]) (λk=>λz=>[(1,.cells 73 (cn e.2)),(13,.c 41 [.az,.az]),(14,.c 41 [.own 15,.own 26]),(15,.slice 79 2 (af bz z) 0 false),(26,.slice 101 5 (af aD c) 0 false)]) ?_ ?_ ?_
   .exact c5
   .rintro k eh z dk ba b;rw[di]at b;refine A.seq<|ai [] [] [(91,.d ((k:Int)<(75:Int)))] ?_
    refine atS rfl (decide_eq_true ba)<|A.skip<|A.seq<|A.block ?_
    obtain⟨bo,dB,b⟩:=ah b;exact bX [(5,dH 286 (ap bz (bytes:=16) (by decide) dB))] [91] [] [14,15] [(14,.c 41 [.own 286,.own 26]),(286,.slice 79 2 (af bz bo) 0 false)]<|bu [(1,Z (o5 (by omega) ba (by decide)))] [15] [(15,u (k+1:Int))]<|Exists.intro bo (And.intro b (ct [.b5 286 15] []))
   rintro k z dk c2 b;rw[dj]at b;refine A.seq<|ai [] [] [(91,.d ((k:Int)<(75:Int)))] ?_
   exact atI rfl (xk c2)<|A.exit<|Exists.intro (e.2.L,e.2.At,z,c) (And.intro b (ct [.b5 26 42] []))
  exact aI T<|A.skip<|Exists.intro (N,L,d,c) (And.intro b (ct [.b5 26 42] []))
 rintro⟨ao,ar,au,aM⟩ b;rw[cC]at b;refine aT [] [7] [] [13,14] [(13,.c 41 [.own 15,.own 42])]<|A.ret ?_
 obtain rfl:=cw b;exact atv b0 [.b5 15 24,.b5 42 25] rfl (by kernel_rfl)
def HS{g:aK}{n:Int}(b:rq t g n=some r):cp prog 34 [(1,.cells 73 (cn t))] [.ptr 1 0,.agg (bE g),u n] (λa w=>a=u r.1/\w=[(1,.cells 73 (cn r.2))]):=by
 refine bq func34 rfl rfl ?_;unfold rq at b;refine ak [(0,.al 205)] [(0,.ptr 1 0),(2,u n),(4,.ptr 205 0)] [(1,.cells 73 (cn t)),(205,.cells 41 (bE g))]<|A.seq ?_
 obtain⟨p,x,b⟩:=cW b;refine A.J (J:=p) (r:=r) (λ(e,f,i)=>[(0,.ptr 1 0),(4,.ptr 205 0),(19,.bool e)]) (λ(e,f,i)=>[(1,.c 73 [aj aW f,u i]),(205,.cells 41 (bE g))]) ?_ ?_
 .rcases aC b with⟨d,b⟩|⟨d,b⟩
  .obtain⟨c,l,b⟩:=ah b;rcases aC b with⟨j,b⟩|⟨j,b⟩
   .exact bX [(2,Z (ax d)),(5,bV [] (px l) oZ),(7,Z (ax j))] [2] [(19,.bool true)] [1] [(1,.cells 73 (cn c.2))]<|aV (true,c.2.L,c.2.At) b
   exact bX [(2,Z (ax d)),(5,bV [] (px l) oZ),(7,Z (ax j)),(10,Z (bl bz g.aL))] [2] [(19,.d ((g.aL.length:Int)=(0:Int)))] [1] [(1,.cells 73 (cn c.2))]<|aV (decide ((g.aL.length:Int)=(0:Int)),c.2.L,c.2.At) b
  exact bu [(2,Z (ax d)),(10,Z (bl bz g.aL))] [2] [(19,.d ((g.aL.length:Int)=(0:Int)))]<|aV (decide ((g.aL.length:Int)=(0:Int)),t.L,t.At) b
 rintro⟨e,f,i⟩ b;rw[x]at b;rcases aC b with⟨h,b⟩|⟨h,b⟩
 .refine aJ h ?_;obtain⟨k,s,b⟩:=ah b;refine ak [(2,bV [] (lS s) mu)] [(6,u k.1)] [(1,.cells 73 (cn k.2))] ?_;cases b;exact A.ret aX
 refine aI h<|A.skip ?_
 obtain⟨m,v,b⟩:=ah b;obtain⟨q,o,b⟩:=ah b;refine ak [(5,Z (bl bz g.aL)),(6,bV [] (g1 v) g2),(7,bh (ix bz o))] [(6,u q.aP)] [(1,.cells 73 (cn m.2))] ?_;cases b;exact A.ret aX
def Ip{g:aK}{r:gC×bH}(b:tP t g=some r):cp prog 18 [(1,.cells 73 (cn t))] [.ptr 1 0,.agg (bE g)] (λa w=>a=.agg [.own 257,.own 258]/\w=[(1,.cells 73 (cn r.2)),(257,.slice 130 2 (af gP r.1.Links) 0 false),(258,.slice 3 1 (af aW r.1.aL) 0 false)]):=by
 refine bq func18 rfl rfl ?_;unfold tP at b;refine ak [(0,.al 203),(1,.al 106)] [(0,.ptr 1 0),(3,.ptr 203 0),(4,.ptr 106 0)] [(1,.cells 73 (cn t)),(203,.cells 41 (bE g)),(106,.c 65 [.az,.az])]<|A.seq ?_
 obtain⟨p,z,b⟩:=cW b;refine A.J (J:=p) (r:=r) (λ(e,f,i)=>[(0,.ptr 1 0),(3,.ptr 203 0),(4,.ptr 106 0),(14,.bool e)]) (λ(e,f,i)=>[(1,.c 73 [aj aW f,u i]),(203,.cells 41 (bE g)),(106,.c 65 [.az,.az])]) ?_ ?_
 .rcases aC b with⟨j,b⟩|⟨j,b⟩
  .obtain⟨d,C,b⟩:=ah b;exact bX [(2,Z (bl aD g.Links)),(4,Z (ax j)),(6,bV [] (g1 C) g2)] [] [(14,.d (0<d.1))] [1] [(1,.cells 73 (cn d.2))]<|aV (decide (0<d.1),d.2.L,d.2.At) b
  exact bu [(2,Z (bl aD g.Links)),(4,Z (ax j))] [] [(14,.bool false)]<|aV (false,t.L,t.At) b
 rintro⟨e,f,i⟩ b;rw[z]at b;rcases aC b with⟨k,b⟩|⟨k,b⟩
 .refine aJ k ?_;obtain⟨x,s,b⟩:=ah b;obtain⟨c,v,b⟩:=ah b;refine aT [(5,Z (bl aD g.Links)),(6,bV [] (g1 s) g2),(7,bh (ix aD v)),(9,.al 317)] [3,14] [(5,.ptr 317 0)] [1,203] [(1,.cells 73 (cn x.2)),(317,.cells 101 (dG c))]<|A.seq ?_
  obtain⟨m,o,b⟩:=ah b;refine aT [(1,bV [] (g1 o) g2)] [0] [(26,.d (m.1=0))] [1] [(1,.cells 73 (cn m.2))] ?_;rcases aC b with⟨h,b⟩|⟨h,b⟩
  .refine aJ h<|aT [(5,.al 365)] [5,26] [] [106,317] [(106,.c 65 [.own 365,.az]),(365,.slice 130 2 (af gP ([(gJ.mk c.B c.A)]:List gJ)) 0 false)]<|A.ret ?_
   obtain rfl:=cw b;exact atv b0 [.b5 365 257,.ac 106 258 3 1 1] rfl (by kernel_rfl)
  refine aI h<|A.skip<|aT [(5,.al 366)] [5,26] [] [106,317] [(106,.c 65 [.own 366,.az]),(366,.slice 130 2 (af gP ([(gJ.mk c.A c.B)]:List gJ)) 0 false)]<|A.ret ?_
  obtain rfl:=cw b;exact atv b0 [.b5 366 257,.ac 106 258 3 1 1] rfl (by kernel_rfl)
 refine aI k<|A.skip<|A.seq<|ai [(2,Z (bl bz g.aL))] [14] [(44,.d ((g.aL.length:Int)=(0:Int)))] ?_
 rcases aC b with⟨l,b⟩|⟨l,b⟩
 .refine aJ l<|aT [] [0,3,44] [] [203] []<|A.ret ?_
  obtain rfl:=cw b;exact atv b0 [.ac 106 257 130 2 0,.ac 106 258 3 1 1] rfl (by kernel_rfl)
 refine aI l<|A.skip ?_
 obtain⟨q,n,b⟩:=ah b;obtain⟨y,B,b⟩:=ah b;refine ak [(5,Z (bl bz g.aL)),(6,bV [] (g1 n) g2),(7,bh (ix bz B)),(10,.al 367)] [(4,.ptr 106 0)] [(1,.cells 73 (cn q.2)),(106,.c 65 [.az,.own 367]),(367,.slice 3 1 (af aW ([y.aP]:bR)) 0 false)]<|A.ret ?_
 obtain rfl:=cw b;exact atv b0 [.b5 367 258,.ac 106 257 130 2 0] rfl (by kernel_rfl)
variable {UJ:Int}{r:Bool}
def HX(a:rA UJ=some r):bB prog 150 [] [u UJ] (.bool r):=by
 refine bq func150 rfl rfl ?_;unfold rA at a;refine ak [] [(0,u UJ)] []<|ak [] [(2,.bool (!decide (UJ=UJ)))] [] ?_
 cases a;exact A.ret aX
def jE{y:Int}{r:Int}(a:hI UJ y=some r):bB prog 88 [] [u UJ,u y] (u r):=by
 refine bq func88 rfl rfl ?_;unfold hI at a;refine ak [] [(0,u UJ),(1,u y)] [] ?_;obtain⟨h,j,a⟩:=ah a;refine ai [(1,aH (HX j) Gq)] [] [(5,.bool h)] ?_;obtain⟨d,i,a⟩:=ah a;refine ai [(1,aH (HX i) Gq)] [] [(6,.bool d)]<|A.seq<|ai [] [5] [(11,.bool h)] ?_
 rcases aC a with⟨c,a⟩|⟨c,a⟩
 .refine aJ c<|A.seq<|ak [] [(12,.bool d)] [] ?_
  rcases aC a with⟨e,a⟩|⟨e,a⟩
  .refine aJ e<|ak [] [(4,u 0)] [] ?_
   cases a;exact A.ret aX
  refine aI e<|A.skip<|ak [] [(4,u (-1))] [] ?_
  cases a;exact A.ret aX
 refine aI c<|A.skip<|A.seq<|ai [] [6,11] [(13,.bool d)] ?_
 rcases aC a with⟨b,a⟩|⟨b,a⟩
 .refine aJ b<|ak [] [(4,u 1)] [] ?_
  cases a;exact A.ret aX
 refine aI b<|A.skip<|A.seq<|ai [] [13] [(16,.d (UJ<y))] ?_
 rcases aC a with⟨g,a⟩|⟨g,a⟩
 .refine aJ g<|ak [] [(4,u (-1))] [] ?_
  cases a;exact A.ret aX
 refine aI g<|A.skip<|A.seq<|ak [] [(19,.d (y<UJ))] [] ?_
 rcases aC a with⟨f,a⟩|⟨f,a⟩
 .refine aJ f<|ak [] [(4,u 1)] [] ?_
  cases a;exact A.ret aX
 refine aI f<|A.skip<|ak [] [(4,u 0)] [] ?_
 cases a;exact A.ret aX
def x7{b:bR}{r:Int}(a:m4 b=some r):bB prog 87 [] [aj aW b] (u r):=by
 refine bq func87 rfl rfl ?_;unfold m4 at a;refine ak [] [(0,aj aW b)] []<|ai [] [] [(3,u 0)]<|A.seq<|ai [(1,Z (bl aW b))] [0] [(6,aj aW b),(7,u b.length),(8,u 0)]<|A.block<|atz 6 rfl λg=>?_
 obtain⟨j,k,m,n,a⟩:=cO a;refine atx (l:=b) (cD:=0) (B:=j) (K:=k) a (λc=>λ()=>[(3,u 0),(6,aj aW b),(7,u b.length),(8,u c)]) (λc=>λ()=>[]) ?_ ?_ ?_
 .exact c5
 .rintro c f o ⟨⟩ i d a;rw[m]at a;refine ai [] [] [(9,.d ((c:Int)<b.length))]<|A.seq<|aJ (cT d)<|A.skip<|A.seq<|A.block<|ai [(0,bh (ix aW (b3 d)))] [9] [(5,u f)]<|ai [] [] [(14,.bool (!decide (f=0)))] ?_
  rcases aC a with⟨e,a⟩|⟨e,a⟩
  .refine aJ e<|ak [] [(2,u f)] [] ?_
   cases a;exact A.ret aX
  exact aI e<|A.skip<|bu [(0,Z (cQ d g))] [8,5,14] [(8,u ((c+1:Nat):Int))]<|aV () a
 rintro c ⟨⟩ i h a;rw[n]at a;refine ai [] [] [(9,.d ((c:Int)<b.length))]<|A.seq<|aI (cS h)<|A.exit<|ak [] [(2,u 0)] [] ?_
 cases a;exact A.ret aX
variable {X1:Int}{h0:List H}{ho:Nat}
def Hl{UJ:pK}{i:bk->Int->gA}(kI:be prog ho)(kJ:∀(g:bk) (h:Int) (q:Int),i g h=some q->bB prog ho [] ([.agg (ha g),u h]++h0) (u q)){r:Int×Bool}(a:qP UJ X1 i=some r):bB prog 109 [] [aj bz UJ,u X1,.cL ho h0] (.bP [u r.1,.bool r.2]):=by
 refine bq func109 rfl rfl ?_;unfold qP at a;refine ak [] [(0,aj bz UJ),(1,u X1),(2,.cL ho h0)] []<|ai [(1,Z (bl bz UJ))] [] [(8,u UJ.length)]<|ai [] [] [(9,u 0),(10,u UJ.length)]<|A.seq<|A.block ?_
 obtain⟨o,x,p,a⟩:=iK a;refine atN (F:=o) a (λ(b,c)=>[(0,aj bz UJ),(1,u X1),(2,.cL ho h0),(8,u UJ.length),(9,u b),(10,u c)]) (λ(b,c)=>[]) ?_ ?_
 .exact c5
 rintro v ⟨b,c⟩ a;rw[p]at a;refine A.seq<|ai [] [] [(17,.d (b<c))] ?_
 rcases aC a with⟨e,a⟩|⟨e,a⟩
 .refine aJ e<|A.skip<|A.block<|ai [(4,.sh (1:Int) (by decide))] [17] [(11,u (a1 (Int.fdiv (IntKind.wrap .u64 (a1 (b+c))) (2 ^ min (1:Int).toNat 64))))] ?_
  obtain⟨t,s,a⟩:=ah a;obtain⟨l,k,a⟩:=ah a;refine ai [(3,bh (ix bz s)),(6,iJ (kJ _ _ _ k) kI)] [] [(31,.d (l<0))] ?_;rcases aC a with⟨f,a⟩|⟨f,a⟩
  .exact aJ f<|bu [] [9,11,31] [(9,u (a1 ((a1 (Int.fdiv (IntKind.wrap .u64 (a1 (b+c))) (2 ^ min (1:Int).toNat 64)))+(1:Int))))]<|aV (a1 ((a1 (Int.fdiv (IntKind.wrap .u64 (a1 (b+c))) (2 ^ min (1:Int).toNat 64)))+(1:Int)),c) a
  exact aI f<|bu [] [10,11,31] [(10,u (a1 (Int.fdiv (IntKind.wrap .u64 (a1 (b+c))) (2 ^ min (1:Int).toNat 64))))]<|aV (b,a1 (Int.fdiv (IntKind.wrap .u64 (a1 (b+c))) (2 ^ min (1:Int).toNat 64))) a
 refine aI e<|A.exit ?_
 rcases aC a with⟨d,a⟩|⟨d,a⟩
 .obtain⟨w,m,a⟩:=ah a;obtain⟨n,j,a⟩:=ah a;refine ak [(4,Z (ax d)),(8,bh (ix bz m)),(11,iJ (kJ _ _ _ j) kI)] [(6,u b),(7,.d (n=0))] [] ?_;cases a;exact A.ret aX
 refine ak [(4,Z (ax d))] [(6,u b),(7,.bool false)] [] ?_;cases a;exact A.ret aX
variable {c3:Nat}{dF:List H}
def Sf{TM:ng}{f:bS->dK}(eO:be prog c3)(eN:∀(e:bS) (q:Bool),f e=some q->bB prog c3 [] ([.agg (m3 e)]++dF) (.bool q)){r:Int}(a:xd TM f=some r):bB prog 127 [] [aj bT TM,.cL c3 dF] (u r):=by
 refine bq func127 rfl rfl ?_;unfold xd at a;refine ak [] [(0,aj bT TM),(1,.cL c3 dF)] []<|A.seq<|ai [(1,Z (bl bT TM))] [] [(7,u TM.length),(8,u 0)]<|A.block<|atz 0 rfl λh=>?_
 obtain⟨k,m,n,o,a⟩:=cO a;refine atx (l:=TM) (cD:=0) (B:=k) (K:=m) a (λb=>λ()=>[(0,aj bT TM),(1,.cL c3 dF),(7,u TM.length),(8,u b)]) (λb=>λ()=>[]) ?_ ?_ ?_
 .exact c5
 .rintro b t s ⟨⟩ j c a;rw[n]at a;refine ai [] [] [(9,.d ((b:Int)<TM.length))]<|A.seq<|aJ (cT c)<|A.skip<|A.seq<|A.block<|ai [] [9] [(5,u b)] ?_
  obtain⟨g,p,a⟩:=ah a;refine ai [(3,bh (ix bT (b3 c))),(5,iJ (eN _ _ p) eO)] [] [(16,.bool g)] ?_;rcases aC a with⟨d,a⟩|⟨d,a⟩
  .refine aJ d<|ak [] [(4,u b)] [] ?_
   cases a;exact A.ret aX
  exact aI d<|A.skip<|bu [(0,Z (cQ c h))] [8,5,16] [(8,u ((b+1:Nat):Int))]<|aV () a
 rintro b ⟨⟩ j i a;rw[o]at a;refine ai [] [] [(9,.d ((b:Int)<TM.length))]<|A.seq<|aI (cS i)<|A.exit<|ak [] [(4,u (-1))] [] ?_
 cases a;exact A.ret aX
def R2{UJ:jC}{X1:aR}{i:aR->aR->gA}(kI:be prog ho)(kJ:∀(g:aR) (h:aR) (q:Int),i g h=some q->bB prog ho [] ([.agg (dG g),.agg (dG h)]++h0) (u q)){r:Int×Bool}(a:ti UJ X1 i=some r):bB prog 129 [] [aj aD UJ,.agg (dG X1),.cL ho h0] (.bP [u r.1,.bool r.2]):=by
 refine bq func129 rfl rfl ?_;unfold ti at a;refine ak [(0,.al 142)] [(0,aj aD UJ),(2,.cL ho h0),(4,.ptr 142 0)] [(142,.cells 101 (dG X1))]<|ai [(1,Z (bl aD UJ))] [] [(8,u UJ.length)]<|ai [] [] [(9,u 0),(10,u UJ.length)]<|A.seq<|A.block ?_
 obtain⟨o,x,p,a⟩:=iK a;refine atN (F:=o) a (λ(b,c)=>[(0,aj aD UJ),(2,.cL ho h0),(4,.ptr 142 0),(8,u UJ.length),(9,u b),(10,u c)]) (λ(b,c)=>[(142,.cells 101 (dG X1))]) ?_ ?_
 .exact c5
 rintro v ⟨b,c⟩ a;rw[p]at a;refine A.seq<|ai [] [] [(17,.d (b<c))] ?_
 rcases aC a with⟨e,a⟩|⟨e,a⟩
 .refine aJ e<|A.skip<|A.block<|ai [(4,.sh (1:Int) (by decide))] [17] [(11,u (a1 (Int.fdiv (IntKind.wrap .u64 (a1 (b+c))) (2 ^ min (1:Int).toNat 64))))] ?_
  obtain⟨t,s,a⟩:=ah a;obtain⟨l,k,a⟩:=ah a;refine ai [(3,bh (ix aD s)),(6,iJ (kJ _ _ _ k) kI)] [] [(31,.d (l<0))] ?_;rcases aC a with⟨f,a⟩|⟨f,a⟩
  .exact aJ f<|bu [] [9,11,31] [(9,u (a1 ((a1 (Int.fdiv (IntKind.wrap .u64 (a1 (b+c))) (2 ^ min (1:Int).toNat 64)))+(1:Int))))]<|aV (a1 ((a1 (Int.fdiv (IntKind.wrap .u64 (a1 (b+c))) (2 ^ min (1:Int).toNat 64)))+(1:Int)),c) a
  exact aI f<|bu [] [10,11,31] [(10,u (a1 (Int.fdiv (IntKind.wrap .u64 (a1 (b+c))) (2 ^ min (1:Int).toNat 64))))]<|aV (b,a1 (Int.fdiv (IntKind.wrap .u64 (a1 (b+c))) (2 ^ min (1:Int).toNat 64))) a
 refine aI e<|A.exit ?_
 rcases aC a with⟨d,a⟩|⟨d,a⟩
 .obtain⟨w,m,a⟩:=ah a;obtain⟨n,j,a⟩:=ah a;refine ak [(4,Z (ax d)),(8,bh (ix aD m)),(11,iJ (kJ _ _ _ j) kI)] [(6,u b),(7,.d (n=0))] [] ?_;cases a;exact A.ret aX
 refine ak [(4,Z (ax d))] [(6,u b),(7,.bool false)] [] ?_;cases a;exact A.ret aX
def Sn{TM:kT}{f:a2->dK}(eO:be prog c3)(eN:∀(e:a2) (q:Bool),f e=some q->bB prog c3 [] ([.agg (ir e)]++dF) (.bool q)){r:Int}(a:xm TM f=some r):bB prog 142 [] [aj bA TM,.cL c3 dF] (u r):=by
 refine bq func142 rfl rfl ?_;unfold xm at a;refine ak [] [(0,aj bA TM),(1,.cL c3 dF)] []<|A.seq<|ai [(1,Z (bl bA TM))] [] [(7,u TM.length),(8,u 0)]<|A.block<|atz 0 rfl λh=>?_
 obtain⟨k,m,n,o,a⟩:=cO a;refine atx (l:=TM) (cD:=0) (B:=k) (K:=m) a (λb=>λ()=>[(0,aj bA TM),(1,.cL c3 dF),(7,u TM.length),(8,u b)]) (λb=>λ()=>[]) ?_ ?_ ?_
 .exact c5
 .rintro b t s ⟨⟩ j c a;rw[n]at a;refine ai [] [] [(9,.d ((b:Int)<TM.length))]<|A.seq<|aJ (cT c)<|A.skip<|A.seq<|A.block<|ai [] [9] [(5,u b)] ?_
  obtain⟨g,p,a⟩:=ah a;refine ai [(3,bh (ix bA (b3 c))),(5,iJ (eN _ _ p) eO)] [] [(16,.bool g)] ?_;rcases aC a with⟨d,a⟩|⟨d,a⟩
  .refine aJ d<|ak [] [(4,u b)] [] ?_
   cases a;exact A.ret aX
  exact aI d<|A.skip<|bu [(0,Z (cQ c h))] [8,5,16] [(8,u ((b+1:Nat):Int))]<|aV () a
 rintro b ⟨⟩ j i a;rw[o]at a;refine ai [] [] [(9,.d ((b:Int)<TM.length))]<|A.seq<|aI (cS i)<|A.exit<|ak [] [(4,u (-1))] [] ?_
 cases a;exact A.ret aX
variable {TM:l5}{f:bZ->dK}
def Sm(eO:be prog c3)(eN:∀(e:bZ) (q:Bool),f e=some q->bB prog c3 [] ([.agg (kg e)]++dF) (.bool q)){r:Int}(a:tj TM f=some r):bB prog 148 [] [aj c1 TM,.cL c3 dF] (u r):=by
 refine bq func148 rfl rfl ?_;unfold tj at a;refine ak [] [(0,aj c1 TM),(1,.cL c3 dF)] []<|A.seq<|ai [(1,Z (bl c1 TM))] [] [(7,u TM.length),(8,u 0)]<|A.block<|atz 0 rfl λh=>?_
 obtain⟨k,m,n,o,a⟩:=cO a;refine atx (l:=TM) (cD:=0) (B:=k) (K:=m) a (λb=>λ()=>[(0,aj c1 TM),(1,.cL c3 dF),(7,u TM.length),(8,u b)]) (λb=>λ()=>[]) ?_ ?_ ?_
 .exact c5
 .rintro b t s ⟨⟩ j c a;rw[n]at a;refine ai [] [] [(9,.d ((b:Int)<TM.length))]<|A.seq<|aJ (cT c)<|A.skip<|A.seq<|A.block<|ai [] [9] [(5,u b)] ?_
  obtain⟨g,p,a⟩:=ah a;refine ai [(3,bh (ix c1 (b3 c))),(5,iJ (eN _ _ p) eO)] [] [(16,.bool g)] ?_;rcases aC a with⟨d,a⟩|⟨d,a⟩
  .refine aJ d<|ak [] [(4,u b)] [] ?_
   cases a;exact A.ret aX
  exact aI d<|A.skip<|bu [(0,Z (cQ c h))] [8,5,16] [(8,u ((b+1:Nat):Int))]<|aV () a
 rintro b ⟨⟩ j i a;rw[o]at a;refine ai [] [] [(9,.d ((b:Int)<TM.length))]<|A.seq<|aI (cS i)<|A.exit<|ak [] [(4,u (-1))] [] ?_
 cases a;exact A.ret aX
def Si{TM:pK}{f:bk->dK}(eO:be prog c3)(eN:∀(e:bk) (q:Bool),f e=some q->bB prog c3 [] ([.agg (ha e)]++dF) (.bool q)){r:Int}(a:xe TM f=some r):bB prog 156 [] [aj bz TM,.cL c3 dF] (u r):=by
 refine bq func156 rfl rfl ?_;unfold xe at a;refine ak [] [(0,aj bz TM),(1,.cL c3 dF)] []<|A.seq<|ai [(1,Z (bl bz TM))] [] [(7,u TM.length),(8,u 0)]<|A.block<|atz 0 rfl λh=>?_
 obtain⟨k,m,n,o,a⟩:=cO a;refine atx (l:=TM) (cD:=0) (B:=k) (K:=m) a (λb=>λ()=>[(0,aj bz TM),(1,.cL c3 dF),(7,u TM.length),(8,u b)]) (λb=>λ()=>[]) ?_ ?_ ?_
 .exact c5
 .rintro b t s ⟨⟩ j c a;rw[n]at a;refine ai [] [] [(9,.d ((b:Int)<TM.length))]<|A.seq<|aJ (cT c)<|A.skip<|A.seq<|A.block<|ai [] [9] [(5,u b)] ?_
  obtain⟨g,p,a⟩:=ah a;refine ai [(3,bh (ix bz (b3 c))),(5,iJ (eN _ _ p) eO)] [] [(16,.bool g)] ?_;rcases aC a with⟨d,a⟩|⟨d,a⟩
  .refine aJ d<|ak [] [(4,u b)] [] ?_
   cases a;exact A.ret aX
  exact aI d<|A.skip<|bu [(0,Z (cQ c h))] [8,5,16] [(8,u ((b+1:Nat):Int))]<|aV () a
 rintro b ⟨⟩ j i a;rw[o]at a;refine ai [] [] [(9,.d ((b:Int)<TM.length))]<|A.seq<|aI (cS i)<|A.exit<|ak [] [(4,u (-1))] [] ?_
 cases a;exact A.ret aX
def Sp{TM:jC}{f:aR->dK}(eO:be prog c3)(eN:∀(e:aR) (q:Bool),f e=some q->bB prog c3 [] ([.agg (dG e)]++dF) (.bool q)){r:Int}(a:xn TM f=some r):bB prog 157 [] [aj aD TM,.cL c3 dF] (u r):=by
 refine bq func157 rfl rfl ?_;unfold xn at a;refine ak [] [(0,aj aD TM),(1,.cL c3 dF)] []<|A.seq<|ai [(1,Z (bl aD TM))] [] [(7,u TM.length),(8,u 0)]<|A.block<|atz 0 rfl λh=>?_
 obtain⟨k,m,n,o,a⟩:=cO a;refine atx (l:=TM) (cD:=0) (B:=k) (K:=m) a (λb=>λ()=>[(0,aj aD TM),(1,.cL c3 dF),(7,u TM.length),(8,u b)]) (λb=>λ()=>[]) ?_ ?_ ?_
 .exact c5
 .rintro b t s ⟨⟩ j c a;rw[n]at a;refine ai [] [] [(9,.d ((b:Int)<TM.length))]<|A.seq<|aJ (cT c)<|A.skip<|A.seq<|A.block<|ai [] [9] [(5,u b)] ?_
  obtain⟨g,p,a⟩:=ah a;refine ai [(3,bh (ix aD (b3 c))),(5,iJ (eN _ _ p) eO)] [] [(16,.bool g)] ?_;rcases aC a with⟨d,a⟩|⟨d,a⟩
  .refine aJ d<|ak [] [(4,u b)] [] ?_
   cases a;exact A.ret aX
  exact aI d<|A.skip<|bu [(0,Z (cQ c h))] [8,5,16] [(8,u ((b+1:Nat):Int))]<|aV () a
 rintro b ⟨⟩ j i a;rw[o]at a;refine ai [] [] [(9,.d ((b:Int)<TM.length))]<|A.seq<|aI (cS i)<|A.exit<|ak [] [(4,u (-1))] [] ?_
 cases a;exact A.ret aX
def Sq{TM:u6}{f:cF->dK}(eO:be prog c3)(eN:∀(e:cF) (q:Bool),f e=some q->bB prog c3 [] ([.agg (i2 e)]++dF) (.bool q)){r:Int}(a:xo TM f=some r):bB prog 158 [] [aj eu TM,.cL c3 dF] (u r):=by
 refine bq func158 rfl rfl ?_;unfold xo at a;refine ak [] [(0,aj eu TM),(1,.cL c3 dF)] []<|A.seq<|ai [(1,Z (bl eu TM))] [] [(7,u TM.length),(8,u 0)]<|A.block<|atz 0 rfl λh=>?_
 obtain⟨k,m,n,o,a⟩:=cO a;refine atx (l:=TM) (cD:=0) (B:=k) (K:=m) a (λb=>λ()=>[(0,aj eu TM),(1,.cL c3 dF),(7,u TM.length),(8,u b)]) (λb=>λ()=>[]) ?_ ?_ ?_
 .exact c5
 .rintro b t s ⟨⟩ j c a;rw[n]at a;refine ai [] [] [(9,.d ((b:Int)<TM.length))]<|A.seq<|aJ (cT c)<|A.skip<|A.seq<|A.block<|ai [] [9] [(5,u b)] ?_
  obtain⟨g,p,a⟩:=ah a;refine ai [(3,bh (ix eu (b3 c))),(5,iJ (eN _ _ p) eO)] [] [(16,.bool g)] ?_;rcases aC a with⟨d,a⟩|⟨d,a⟩
  .refine aJ d<|ak [] [(4,u b)] [] ?_
   cases a;exact A.ret aX
  exact aI d<|A.skip<|bu [(0,Z (cQ c h))] [8,5,16] [(8,u ((b+1:Nat):Int))]<|aV () a
 rintro b ⟨⟩ j i a;rw[o]at a;refine ai [] [] [(9,.d ((b:Int)<TM.length))]<|A.seq<|aI (cS i)<|A.exit<|ak [] [(4,u (-1))] [] ?_
 cases a;exact A.ret aX
def Sj{TM:pR}{f:aO->dK}(eO:be prog c3)(eN:∀(e:aO) (q:Bool),f e=some q->bB prog c3 [] ([.agg (dB e)]++dF) (.bool q)){r:Int}(a:xg TM f=some r):bB prog 172 [] [aj cm TM,.cL c3 dF] (u r):=by
 refine bq func172 rfl rfl ?_;unfold xg at a;refine ak [] [(0,aj cm TM),(1,.cL c3 dF)] []<|A.seq<|ai [(1,Z (bl cm TM))] [] [(7,u TM.length),(8,u 0)]<|A.block<|atz 0 rfl λh=>?_
 obtain⟨k,m,n,o,a⟩:=cO a;refine atx (l:=TM) (cD:=0) (B:=k) (K:=m) a (λb=>λ()=>[(0,aj cm TM),(1,.cL c3 dF),(7,u TM.length),(8,u b)]) (λb=>λ()=>[]) ?_ ?_ ?_
 .exact c5
 .rintro b t s ⟨⟩ j c a;rw[n]at a;refine ai [] [] [(9,.d ((b:Int)<TM.length))]<|A.seq<|aJ (cT c)<|A.skip<|A.seq<|A.block<|ai [] [9] [(5,u b)] ?_
  obtain⟨g,p,a⟩:=ah a;refine ai [(3,bh (ix cm (b3 c))),(5,iJ (eN _ _ p) eO)] [] [(16,.bool g)] ?_;rcases aC a with⟨d,a⟩|⟨d,a⟩
  .refine aJ d<|ak [] [(4,u b)] [] ?_
   cases a;exact A.ret aX
  exact aI d<|A.skip<|bu [(0,Z (cQ c h))] [8,5,16] [(8,u ((b+1:Nat):Int))]<|aV () a
 rintro b ⟨⟩ j i a;rw[o]at a;refine ai [] [] [(9,.d ((b:Int)<TM.length))]<|A.seq<|aI (cS i)<|A.exit<|ak [] [(4,u (-1))] [] ?_
 cases a;exact A.ret aX
def SR{TM:bR}{v:Int}{r:Int}(a:xy TM v=some r):bB prog 173 [] [aj aW TM,u v] (u r):=by
 refine bq func173 rfl rfl ?_;unfold xy at a;refine ak [] [(0,aj aW TM),(1,u v)] []<|A.seq<|ai [(1,Z (bl aW TM))] [] [(7,u TM.length),(8,u 0)]<|A.block<|atz 0 rfl λe=>?_
 obtain⟨h,i,j,k,a⟩:=cO a;refine atx (l:=TM) (cD:=0) (B:=h) (K:=i) a (λb=>λ()=>[(0,aj aW TM),(1,u v),(7,u TM.length),(8,u b)]) (λb=>λ()=>[]) ?_ ?_ ?_
 .exact c5
 .rintro b m n ⟨⟩ g c a;rw[j]at a;refine ai [] [] [(9,.d ((b:Int)<TM.length))]<|A.seq<|aJ (cT c)<|A.skip<|A.seq<|A.block<|ai [] [9] [(5,u b)]<|ai [(3,bh (ix aW (b3 c)))] [] [(16,.d (v=m))] ?_
  rcases aC a with⟨d,a⟩|⟨d,a⟩
  .refine aJ d<|ak [] [(4,u b)] [] ?_
   cases a;exact A.ret aX
  exact aI d<|A.skip<|bu [(0,Z (cQ c e))] [8,5,16] [(8,u ((b+1:Nat):Int))]<|aV () a
 rintro b ⟨⟩ g f a;rw[k]at a;refine ai [] [] [(9,.d ((b:Int)<TM.length))]<|A.seq<|aI (cS f)<|A.exit<|ak [] [(4,u (-1))] [] ?_
 cases a;exact A.ret aX
def R3{UJ:pR}{i:aO->Int->gA}(kI:be prog ho)(kJ:∀(g:aO) (h:Int) (q:Int),i g h=some q->bB prog ho [] ([.agg (dB g),u h]++h0) (u q)){r:Int×Bool}(a:te UJ X1 i=some r):bB prog 209 [] [aj cm UJ,u X1,.cL ho h0] (.bP [u r.1,.bool r.2]):=by
 refine bq func209 rfl rfl ?_;unfold te at a;refine ak [] [(0,aj cm UJ),(1,u X1),(2,.cL ho h0)] []<|ai [(1,Z (bl cm UJ))] [] [(8,u UJ.length)]<|ai [] [] [(9,u 0),(10,u UJ.length)]<|A.seq<|A.block ?_
 obtain⟨o,x,p,a⟩:=iK a;refine atN (F:=o) a (λ(b,c)=>[(0,aj cm UJ),(1,u X1),(2,.cL ho h0),(8,u UJ.length),(9,u b),(10,u c)]) (λ(b,c)=>[]) ?_ ?_
 .exact c5
 rintro v ⟨b,c⟩ a;rw[p]at a;refine A.seq<|ai [] [] [(17,.d (b<c))] ?_
 rcases aC a with⟨e,a⟩|⟨e,a⟩
 .refine aJ e<|A.skip<|A.block<|ai [(4,.sh (1:Int) (by decide))] [17] [(11,u (a1 (Int.fdiv (IntKind.wrap .u64 (a1 (b+c))) (2 ^ min (1:Int).toNat 64))))] ?_
  obtain⟨t,s,a⟩:=ah a;obtain⟨l,k,a⟩:=ah a;refine ai [(3,bh (ix cm s)),(6,iJ (kJ _ _ _ k) kI)] [] [(31,.d (l<0))] ?_;rcases aC a with⟨f,a⟩|⟨f,a⟩
  .exact aJ f<|bu [] [9,11,31] [(9,u (a1 ((a1 (Int.fdiv (IntKind.wrap .u64 (a1 (b+c))) (2 ^ min (1:Int).toNat 64)))+(1:Int))))]<|aV (a1 ((a1 (Int.fdiv (IntKind.wrap .u64 (a1 (b+c))) (2 ^ min (1:Int).toNat 64)))+(1:Int)),c) a
  exact aI f<|bu [] [10,11,31] [(10,u (a1 (Int.fdiv (IntKind.wrap .u64 (a1 (b+c))) (2 ^ min (1:Int).toNat 64))))]<|aV (b,a1 (Int.fdiv (IntKind.wrap .u64 (a1 (b+c))) (2 ^ min (1:Int).toNat 64))) a
 refine aI e<|A.exit ?_
 rcases aC a with⟨d,a⟩|⟨d,a⟩
 .obtain⟨w,m,a⟩:=ah a;obtain⟨n,j,a⟩:=ah a;refine ak [(4,Z (ax d)),(8,bh (ix cm m)),(11,iJ (kJ _ _ _ j) kI)] [(6,u b),(7,.d (n=0))] [] ?_;cases a;exact A.ret aX
 refine ak [(4,Z (ax d))] [(6,u b),(7,.bool false)] [] ?_;cases a;exact A.ret aX
def Hu(eO:be prog c3)(eN:∀(b:bZ) (q:Bool),f b=some q->bB prog c3 [] ([.agg (kg b)]++dF) (.bool q))(a:nP TM f=some r):bB prog 84 [] [aj c1 TM,.cL c3 dF] (.bool r):=by
 refine bq func84 rfl rfl ?_;unfold nP at a;refine ak [] [(0,aj c1 TM),(1,.cL c3 dF)] [] ?_;obtain⟨c,d,a⟩:=ah a;refine ak [(2,aH (Sm (eO:=eO) (eN:=eN) d) PN)] [(4,.d (0<=c))] [] ?_;cases a;exact A.ret aX
def Sc{TM:pK}{f:bk->dK}(eO:be prog c3)(eN:∀(b:bk) (q:Bool),f b=some q->bB prog c3 [] ([.agg (ha b)]++dF) (.bool q))(a:tg TM f=some r):bB prog 105 [] [aj bz TM,.cL c3 dF] (.bool r):=by
 refine bq func105 rfl rfl ?_;unfold tg at a;refine ak [] [(0,aj bz TM),(1,.cL c3 dF)] [] ?_;obtain⟨c,d,a⟩:=ah a;refine ak [(2,aH (Si (eO:=eO) (eN:=eN) d) PS)] [(4,.d (0<=c))] [] ?_;cases a;exact A.ret aX
def Bw{TM:jC}{f:aR->dK}(eO:be prog c3)(eN:∀(b:aR) (q:Bool),f b=some q->bB prog c3 [] ([.agg (dG b)]++dF) (.bool q))(a:pa TM f=some r):bB prog 111 [] [aj aD TM,.cL c3 dF] (.bool r):=by
 refine bq func111 rfl rfl ?_;unfold pa at a;refine ak [] [(0,aj aD TM),(1,.cL c3 dF)] [] ?_;obtain⟨c,d,a⟩:=ah a;refine ak [(2,aH (Sp (eO:=eO) (eN:=eN) d) PT)] [(4,.d (0<=c))] [] ?_;cases a;exact A.ret aX
def Sh{TM:u6}{f:cF->dK}(eO:be prog c3)(eN:∀(b:cF) (q:Bool),f b=some q->bB prog c3 [] ([.agg (i2 b)]++dF) (.bool q))(a:qS TM f=some r):bB prog 117 [] [aj eu TM,.cL c3 dF] (.bool r):=by
 refine bq func117 rfl rfl ?_;unfold qS at a;refine ak [] [(0,aj eu TM),(1,.cL c3 dF)] [] ?_;obtain⟨c,d,a⟩:=ah a;refine ak [(2,aH (Sq (eO:=eO) (eN:=eN) d) PU)] [(4,.d (0<=c))] [] ?_;cases a;exact A.ret aX
def Sd{TM:pR}{f:aO->dK}(eO:be prog c3)(eN:∀(b:aO) (q:Bool),f b=some q->bB prog c3 [] ([.agg (dB b)]++dF) (.bool q))(a:th TM f=some r):bB prog 140 [] [aj cm TM,.cL c3 dF] (.bool r):=by
 refine bq func140 rfl rfl ?_;unfold th at a;refine ak [] [(0,aj cm TM),(1,.cL c3 dF)] [] ?_;obtain⟨c,d,a⟩:=ah a;refine ak [(2,aH (Sj (eO:=eO) (eN:=eN) d) PZ)] [(4,.d (0<=c))] [] ?_;cases a;exact A.ret aX
def xp{TM:bR}{v:Int}(a:pe TM v=some r):bB prog 145 [] [aj aW TM,u v] (.bool r):=by
 refine bq func145 rfl rfl ?_;unfold pe at a;refine ak [] [(0,aj aW TM),(1,u v)] [] ?_;obtain⟨b,c,a⟩:=ah a;refine ak [(2,aH (SR c) P0)] [(4,.d (0<=b))] [] ?_;cases a;exact A.ret aX
def py{n:Int}{c:Int}{a:Int}(e:n0 n c a=some r):bB prog 107 [] [u n,u c,u a] (.bool r):=by
 refine bq func107 rfl rfl ?_;unfold n0 at e;refine ak [] [(0,u n),(1,u c),(2,u a)] []<|atA [(6,.bool ((decide (c<=n))&&(decide (n<=a))))] [] (λd=>?_) ?_
 .rcases eY (decide (c<=n))with b|b
  .exact ak [(3,Z (ax b)),(8,Z (jy (q:=decide (n<=a)) b))] _ _ d
  exact ak [(3,Z (ax b)),(8,Z (jY (q:=decide (n<=a)) b))] _ _ d
 cases e;exact A.ret aX
def HQ{a:aR}{b:aR}{r:Int}(c:ri a b=some r):bB prog 115 [] [.agg (dG a),.agg (dG b)] (u r):=by
 refine bq func115 rfl rfl ?_;unfold ri at c;refine ak [(0,.al 399),(1,.al 400)] [(2,.ptr 399 0),(3,.ptr 400 0)] [(399,.cells 101 (dG a)),(400,.cells 101 (dG b))] ?_;obtain⟨h,g,c⟩:=ah c;obtain⟨i,e,c⟩:=ah c;obtain⟨d,f,c⟩:=ah c;refine ak [(4,aH (jE g) jZ),(9,aH (jE e) jZ),(11,aH (x7 f) w3)] [(4,u d)] [] ?_;cases c;exact A.ret aX
variable {Wv:bk}{id:Int}
def HY{r:Int}(a:rB Wv id=some r):bB prog 110 [] [.agg (ha Wv),u id] (u r):=by
 refine bq func110 rfl rfl ?_;unfold rB at a;refine ak [(0,.al 395)] [(1,u id),(2,.ptr 395 0)] [(395,.cells 79 (ha Wv))] ?_;obtain⟨b,c,a⟩:=ah a;refine ak [(3,aH (jE c) jZ)] [(4,u b)] [] ?_;cases a;exact A.ret aX
def S1(a:xO Wv=some r):bB prog 106 [] [.agg (ha Wv)] (.bool r):=by
 refine bq func106 rfl rfl ?_;unfold xO at a;refine ak [(0,.al 394)] [(1,.ptr 394 0)] [(394,.cells 79 (ha Wv))] ?_;obtain⟨b,c,a⟩:=ah a;refine ak [(2,aH (py c) oG)] [(2,.bool (!b))] [] ?_;cases a;exact A.ret aX
variable {l:aR}
def S3(a:tW l=some r):bB prog 112 [] [.agg (dG l)] (.bool r):=by
 refine bq func112 rfl rfl ?_;unfold tW at a;refine ak [(0,.al 396)] [(1,.ptr 396 0)] [(396,.cells 101 (dG l))] ?_;obtain⟨h,d,a⟩:=ah a;rcases aC a with⟨b,a⟩|⟨b,a⟩
 .refine ak [(2,aH (py d) oG),(4,Z (ax b))] [(2,.bool true)] [] ?_;cases a;exact A.ret aX
 obtain⟨i,e,a⟩:=ah a;rcases aC a with⟨c,a⟩|⟨c,a⟩
 .refine ak [(2,aH (py d) oG),(4,Z (ax b)),(7,aH (py e) oG),(10,Z (ax c))] [(2,.bool true)] [] ?_;cases a;exact A.ret aX
 obtain⟨f,g,a⟩:=ah a;refine ak [(2,aH (py d) oG),(4,Z (ax b)),(7,aH (py e) oG),(10,Z (ax c)),(13,aH (py g) oG)] [(2,.bool (!f))] [] ?_;cases a;exact A.ret aX
variable {Wx:aK}
def BT(a:rj id Wx=some r):bB prog 108 [] [u id,.dR (bE Wx)] (.bool r):=by
 refine bq func108 rfl rfl ?_;unfold rj at a;refine ak [] [(0,u id),(1,.dR (bE Wx))] [] ?_;obtain⟨b,d,a⟩:=ah a;refine ak [(3,aH (Hl (ho:=110) (h0:=[]) (kI:=Gk) (kJ:=λ_ _ _ c=>HY c) d) Gj)] [(5,.bool b.2)] []<|ak [] [(3,.bool (!b.2))] [] ?_
 cases a;exact A.ret aX
def S4(a:xP l Wx=some r):bB prog 113 [] [.agg (dG l),.dR [.fn 108 [.dR (bE Wx)]]] (.bool r):=by
 refine bq func113 rfl rfl ?_;unfold xP at a;refine ak [(0,.al 397)] [(1,.dR [.fn 108 [.dR (bE Wx)]]),(2,.ptr 397 0)] [(397,.cells 101 (dG l))] ?_;obtain⟨f,c,a⟩:=ah a;rcases aC a with⟨b,a⟩|⟨b,a⟩
 .refine ak [(3,bp [] (BT c) AY),(4,Z (ax b))] [(3,.bool true)] [] ?_;cases a;exact A.ret aX
 obtain⟨e,d,a⟩:=ah a;refine ak [(3,bp [] (BT c) AY),(4,Z (ax b)),(8,bp [] (BT d) AY)] [(3,.bool e)] [] ?_;cases a;exact A.ret aX
def S5(a:xQ l=some r):bB prog 114 [] [.agg (dG l)] (.bool r):=by
 refine bq func114 rfl rfl ?_;unfold xQ at a;refine ak [(0,.al 398)] [(1,.ptr 398 0)] [(398,.cells 101 (dG l))]<|ak [] [(2,.d (l.B<=l.A))] [] ?_
 cases a;exact A.ret aX
variable {t:aK}
def kV{r:Int}(a:iW t=some r):bB prog 43 [] [.agg (bE t)] (u r):=by
 refine bq func43 rfl rfl ?_;unfold iW at a;refine ak [(0,.al 38)] [(1,.ptr 38 0)] [(38,.cells 41 (bE t))]<|A.seq<|A.block<|atA [(1,.ptr 38 0),(6,.bool ((decide (24<(t.aL.length:Int)))||(decide (60<(t.Links.length:Int)))))] [(38,.cells 41 (bE t))] (λC=>?_) ?_
 .rcases eY (decide (24<(t.aL.length:Int)))with e|e
  .exact ak [(2,Z (bl bz t.aL)),(4,Z (ax e)),(10,Z (g0 (q:=decide (60<(t.Links.length:Int))) e))] _ _ C
  exact ak [(2,Z (bl bz t.aL)),(4,Z (ax e)),(7,Z (bl aD t.Links)),(10,Z (eS (q:=decide (60<(t.Links.length:Int))) e))] _ _ C
 rcases aC a with⟨i,a⟩|⟨i,a⟩
 .refine aJ i<|ak [] [(2,u 3)] [] ?_
  cases a;exact A.ret aX
 refine aI i ?_;obtain⟨L,ar,a⟩:=ah a;refine ai [(2,aH (Sc (c3:=106) (dF:=[]) (eO:=Qh) (eN:=λ_ _ d=>S1 d) ar) Qg)] [6] [(17,.bool L)] ?_;rcases aC a with⟨h,a⟩|⟨h,a⟩
 .refine aJ h<|ak [] [(2,u 2)] [] ?_
  cases a;exact A.ret aX
 refine aI h<|A.skip<|A.seq<|ai [(2,Z (bl bz t.aL))] [17] [(23,u t.aL.length),(24,u 0)]<|A.block<|atM 1 0 rfl rfl rfl λR=>?_
 obtain⟨V,W,X,Y,a⟩:=cO a;refine atx (l:=t.aL) (cD:=0) (B:=V) (K:=W) a (λc=>λ()=>[(1,.ptr 38 0),(23,u t.aL.length),(24,u c)]) (λc=>λ()=>[(38,.cells 41 (bE t))]) ?_ ?_ ?_
 .exact c5
 .rintro c z au ⟨⟩ U g a;rw[X]at a;refine ai [] [] [(25,.d ((c:Int)<t.aL.length))]<|A.seq<|aJ (cT g)<|A.skip<|A.seq<|A.block<|ai [] [25] [(3,u c)] ?_
  obtain⟨G,O,a⟩:=cW a;refine A.J (J:=G) (r:=r) (λf=>[(1,.ptr 38 0),(23,u t.aL.length),(24,u c),(44,.bool f)]) (λf=>[(38,.cells 41 (bE t))]) ?_ ?_
  .rcases aC a with⟨m,a⟩|⟨m,a⟩
   .obtain⟨x,I,a⟩:=ah a;exact bu [(2,Z (ax m)),(7,bh (ix bz I)),(13,bh (ix bz (b3 g)))] [3] [(44,.d (z.aP<=x.aP))]<|aV (decide (z.aP<=x.aP)) a
   exact bu [(2,Z (ax m))] [3] [(44,.bool false)]<|aV false a
  rintro f a;rw[O]at a;rcases aC a with⟨k,a⟩|⟨k,a⟩
  .refine aJ k<|ak [] [(2,u 25)] [] ?_
   cases a;exact A.ret aX
  exact aI k<|A.skip<|bu [(0,Z (cQ g R))] [24,44] [(24,u ((c+1:Nat):Int))]<|aV () a
 rintro c ⟨⟩ U S a;rw[Y]at a;refine ai [] [] [(25,.d ((c:Int)<t.aL.length))]<|A.seq<|aI (cS S)<|A.exit<|aT [(1,.al 289)] [23,24,25] [(4,.ptr 289 0)] [] [(289,.c 144 [.fn 108 [.ptr 38 0]])]<|A.seq<|A.block ?_
 obtain⟨N,M,a⟩:=ah a;refine ai [(2,aH (Bw (c3:=112) (dF:=[]) (eO:=Qi) (eN:=λ_ _ d=>S3 d) M) AZ)] [] [(47,.bool N)] ?_;rcases aC a with⟨p,a⟩|⟨p,a⟩
 .refine aJ p<|ak [] [(2,u 2)] [] ?_
  cases a;exact A.ret aX
 refine aI p ?_;obtain⟨E,F,a⟩:=ah a;refine aT [(3,bp [289,38] (Bw (c3:=113) (dF:=[.dR [.fn 108 [.dR (bE t)]]]) (eO:=Qj) (eN:=λ_ _ d=>S4 d) F) AZ)] [4,47] [(51,.bool E)] [289] [] ?_;rcases aC a with⟨s,a⟩|⟨s,a⟩
 .refine aJ s<|ak [] [(2,u 4)] [] ?_
  cases a;exact A.ret aX
 refine aI s ?_;obtain⟨H,D,a⟩:=ah a;refine ai [(2,aH (Bw (c3:=114) (dF:=[]) (eO:=Qk) (eN:=λ_ _ d=>S5 d) D) AZ)] [51] [(56,.bool H)] ?_;rcases aC a with⟨n,a⟩|⟨n,a⟩
 .refine aJ n<|ak [] [(2,u 8)] [] ?_
  cases a;exact A.ret aX
 refine aI n<|A.skip<|A.seq<|ai [(2,Z (bl aD t.Links))] [56] [(62,u t.Links.length),(63,u 0)]<|A.block<|atM 1 1 rfl rfl rfl λaj=>?_
 obtain⟨am,aq,an,ao,a⟩:=cO a;refine atx (l:=t.Links) (cD:=0) (B:=am) (K:=aq) a (λb=>λ()=>[(1,.ptr 38 0),(62,u t.Links.length),(63,u b)]) (λb=>λ()=>[(38,.cells 41 (bE t))]) ?_ ?_ ?_
 .exact c5
 .rintro b aE aw ⟨⟩ af j a;rw[an]at a;refine ai [] [] [(64,.d ((b:Int)<t.Links.length))]<|A.seq<|aJ (cT j)<|A.skip<|A.seq<|A.block<|ai [] [64] [(5,u b)] ?_
  obtain⟨T,ae,a⟩:=cW a;refine A.J (J:=T) (r:=r) (λo=>[(1,.ptr 38 0),(62,u t.Links.length),(63,u b),(82,.bool o)]) (λo=>[(38,.cells 41 (bE t))]) ?_ ?_
  .rcases aC a with⟨w,a⟩|⟨w,a⟩
   .obtain⟨av,P,a⟩:=ah a;obtain⟨y,Q,a⟩:=ah a;exact bu [(2,Z (ax w)),(7,bh (ix aD P)),(12,bh (ix aD (b3 j))),(14,aH (HQ Q) Gl)] [5] [(82,.d (0<=y))]<|aV (decide (0<=y)) a
   exact bu [(2,Z (ax w))] [5] [(82,.bool false)]<|aV false a
  rintro o a;rw[ae]at a;rcases aC a with⟨v,a⟩|⟨v,a⟩
  .refine aJ v<|ak [] [(2,u 25)] [] ?_
   cases a;exact A.ret aX
  exact aI v<|A.skip<|bu [(0,Z (cQ j aj))] [63,82] [(63,u ((b+1:Nat):Int))]<|aV () a
 rintro b ⟨⟩ af ab a;rw[ao]at a;refine ai [] [] [(64,.d ((b:Int)<t.Links.length))]<|A.seq<|aI (cS ab)<|A.exit<|ak [] [(2,u 0)] [] ?_
 cases a;exact A.ret aX
def q6(a:nW t=some r):bB prog 128 [] [.agg (bE t)] (.bool r):=by
 refine bq func128 rfl rfl ?_;unfold nW at a;refine ak [(0,.al 404)] [(1,.ptr 404 0)] [(404,.cells 41 (bE t))] ?_;obtain⟨b,c,a⟩:=ah a;refine ak [(1,aH (kV c) lF)] [(2,.d (b=0))] [] ?_;cases a;exact A.ret aX
variable {Ui:Int}
def HZ{r:bk×Bool}(a:rC t Ui=some r):bB prog 149 [] [.agg (bE t),u Ui] (.bP [.agg (ha r.1),.bool r.2]):=by
 refine bq func149 rfl rfl ?_;unfold rC at a;refine ak [(0,.al 251),(1,.al 200)] [(1,u Ui),(2,.ptr 251 0),(4,.ptr 200 0)] [(251,.cells 41 (bE t)),(200,.c 79 [u 0,.bool false])] ?_;obtain⟨b,g,a⟩:=ah a;refine ai [(3,aH (Hl (ho:=110) (h0:=[]) (kI:=Gk) (kJ:=λ_ _ _ f=>HY f) g) Gj)] [1] [(6,u b.1),(7,.bool b.2)]<|A.seq<|ai [] [7] [(16,.bool (!b.2))] ?_
 rcases aC a with⟨c,a⟩|⟨c,a⟩
 .refine aJ c<|aT [] [2,6,16] [(5,.bool false)] [251] [] ?_
  cases a;exact A.ret aX
 refine aI c<|A.skip ?_
 obtain⟨d,e,a⟩:=ah a;refine ak [(3,bh (ix bz e))] [(4,.ptr 200 0),(5,.bool true)] [(200,.cells 79 (ha d))] ?_;cases a;exact A.ret aX
def nT(a:jG t Ui=some r):bB prog 86 [] [.agg (bE t),u Ui] (.bool r):=by
 refine bq func86 rfl rfl ?_;unfold jG at a;refine ak [(0,.al 353)] [(1,u Ui),(2,.ptr 353 0)] [(353,.cells 41 (bE t))] ?_;obtain⟨d,e,a⟩:=ah a;refine ai [(2,aH (HZ e) Gp),(6,.al 86005)] [1] [(6,.bool d.2)] ?_;obtain⟨f,c,a⟩:=ah a;rcases aC a with⟨b,a⟩|⟨b,a⟩
 .refine ak [(1,aH (q6 c) qt),(2,Z (ax b))] [(4,.bool d.2)] [] ?_;cases a;exact A.ret aX
 refine ak [(1,aH (q6 c) qt),(2,Z (ax b))] [(4,.bool false)] [] ?_;cases a;exact A.ret aX
def xH(a:hP t Ui=some r):bB prog 104 [] [.agg (bE t),u Ui] (.bool r):=by
 refine bq func104 rfl rfl ?_;unfold hP at a;refine ak [(0,.al 309)] [(1,u Ui),(2,.ptr 309 0)] [(309,.cells 41 (bE t))] ?_;obtain⟨d,e,a⟩:=ah a;refine aT [(2,aH (HZ e) Gp),(6,.al 393)] [1] [(5,.ptr 393 0)] [] [(393,.cells 79 (ha d.1))] ?_;obtain⟨f,c,a⟩:=ah a;rcases aC a with⟨b,a⟩|⟨b,a⟩
 .refine ak [(1,aH (q6 c) qt),(2,Z (ax b))] [(4,.bool d.1.bw)] [] ?_;cases a;exact A.ret aX
 refine ak [(1,aH (q6 c) qt),(2,Z (ax b))] [(4,.bool false)] [] ?_;cases a;exact A.ret aX
def H1{b:Int}{c:Int}{r:Int×Bool}(a:pH t b c=some r):bB prog 61 [] [.agg (bE t),u b,u c] (.bP [u r.1,.bool r.2]):=by
 refine bq func61 rfl rfl ?_;unfold pH at a;refine ak [(0,.al 215)] [(1,u b),(2,u c),(3,.ptr 215 0)] [(215,.cells 41 (bE t))]<|A.seq ?_
 obtain⟨k,o,a⟩:=ah a;refine ai [(1,aH (q6 o) qt)] [] [(12,.bool (!k))] ?_;rcases aC a with⟨e,a⟩|⟨e,a⟩
 .refine aJ e<|ak [] [(6,u 0),(7,.bool false)] [] ?_
  cases a;exact A.ret aX
 refine aI e<|A.skip ?_
 obtain⟨f,j,a⟩:=ah a;refine ai [(9,aH (R2 (ho:=115) (h0:=[]) (kI:=Gl) (kJ:=λ_ _ _ n=>HQ n) j) PA)] [12] [(8,u f.1),(9,.bool f.2)]<|A.seq<|A.block<|ai [] [9] [(26,.bool (!f.2))] ?_
 rcases aC a with⟨g,a⟩|⟨g,a⟩
 .refine aJ g<|ak [] [(6,u 0),(7,.bool false)] [] ?_
  cases a;exact A.ret aX
 refine aI g<|ai [] [1,2,26] [(29,.d (b<c))] ?_
 rcases aC a with⟨d,a⟩|⟨d,a⟩
 .refine aJ d ?_;obtain⟨i,l,a⟩:=ah a;refine ak [(3,bh (ix aD l))] [(6,u i.gn),(7,.bool true)] [] ?_;cases a;exact A.ret aX
 refine aI d<|A.skip ?_
 obtain⟨m,h,a⟩:=ah a;refine ak [(3,bh (ix aD h))] [(6,u m.gd),(7,.bool true)] [] ?_;cases a;exact A.ret aX
variable {UJ:Int}
def Iq{r:Int}(a:B0 UJ=some r):bB prog 184 [] [.int .u64 UJ] (u r):=by
 refine bq func184 rfl rfl ?_;unfold B0 at a;refine ak [] [(0,.int .u64 UJ),(2,u 0)] [] ?_;obtain⟨l,m,a⟩:=cW a;refine A.J (J:=l) (r:=r) (λ(b,d)=>[(0,.int .u64 b),(2,u d)]) (λ(b,d)=>[]) ?_ ?_
 .refine ai [] [] [(4,.d (4294967296<=UJ))] ?_;rcases aC a with⟨i,a⟩|⟨i,a⟩
  .exact aJ i<|ak [(1,.sh (32:Int) (by decide))] [(0,.int .u64 (Int.fdiv UJ (2 ^ min (32:Int).toNat 64)))] []<|bu [] [] [(2,u 32)]<|aV (Int.fdiv UJ (2 ^ min (32:Int).toNat 64),(32:Int)) a
  exact aI i<|A.skip<|aV (UJ,(0:Int)) a
 rintro⟨b,d⟩ a;rw[m]at a;obtain⟨n,o,a⟩:=cW a;refine A.J (J:=n) (r:=r) (λ(c,e)=>[(0,.int .u64 c),(2,u e)]) (λ(c,e)=>[]) ?_ ?_
 .refine ai [] [] [(8,.d (65536<=b))] ?_;rcases aC a with⟨j,a⟩|⟨j,a⟩
  .exact aJ j<|ai [(1,.sh (16:Int) (by decide))] [0,8] [(0,.int .u64 (Int.fdiv b (2 ^ min (16:Int).toNat 64)))]<|bu [] [2] [(2,u (a1 (d+16)))]<|aV (Int.fdiv b (2 ^ min (16:Int).toNat 64),a1 (d+16)) a
  exact aI j<|A.skip<|aV (b,d) a
 rintro⟨c,e⟩ a;rw[o]at a;obtain⟨p,q,a⟩:=cW a;refine A.J (J:=p) (r:=r) (λ(f,g)=>[(0,.int .u64 f),(2,u g)]) (λ(f,g)=>[]) ?_ ?_
 .refine ai [] [] [(14,.d (256<=c))] ?_;rcases aC a with⟨h,a⟩|⟨h,a⟩
  .exact aJ h<|ai [(1,.sh (8:Int) (by decide))] [0,14] [(0,.int .u64 (Int.fdiv c (2 ^ min (8:Int).toNat 64)))]<|bu [] [2] [(2,u (a1 (e+8)))]<|aV (Int.fdiv c (2 ^ min (8:Int).toNat 64),a1 (e+8)) a
  exact aI h<|A.skip<|aV (c,e) a
 rintro⟨f,g⟩ a;rw[q]at a;obtain⟨k,s,a⟩:=ah a;refine ak [(3,.is (⟨#[0,1,2,2,3,3,3,3,4,4,4,4,4,4,4,4,5,5,5,5,5,5,5,5,5,5,5,5,5,5,5,5,6,6,6,6,6,6,6,6,6,6,6,6,6,6,6,6,6,6,6,6,6,6,6,6,6,6,6,6,6,6,6,6,7,7,7,7,7,7,7,7,7,7,7,7,7,7,7,7,7,7,7,7,7,7,7,7,7,7,7,7,7,7,7,7,7,7,7,7,7,7,7,7,7,7,7,7,7,7,7,7,7,7,7,7,7,7,7,7,7,7,7,7,7,7,7,7,8,8,8,8,8,8,8,8,8,8,8,8,8,8,8,8,8,8,8,8,8,8,8,8,8,8,8,8,8,8,8,8,8,8,8,8,8,8,8,8,8,8,8,8,8,8,8,8,8,8,8,8,8,8,8,8,8,8,8,8,8,8,8,8,8,8,8,8,8,8,8,8,8,8,8,8,8,8,8,8,8,8,8,8,8,8,8,8,8,8,8,8,8,8,8,8,8,8,8,8,8,8,8,8,8,8,8,8,8,8,8,8,8,8,8,8,8,8,8,8,8,8,8,8,8,8,8,8]⟩:ByteArray) (IntKind.wrap .u8 f) k (K4 s))] [(2,u (a1 (g+(a1 (k.toNat:Int)))))] [] ?_;cases a;exact A.ret aX
def IB{r:Int}(a:B4 UJ=some r):bB prog 152 [] [.int .u64 UJ] (u r):=by
 refine bq func152 rfl rfl ?_;unfold B4 at a;refine ak [] [(0,.int .u64 UJ)] []<|A.seq<|atI rfl rfl<|A.skip ?_
 obtain⟨b,c,a⟩:=ah a;refine ak [(1,aH (Iq c) Pq)] [(2,u b)] [] ?_;cases a;exact A.ret aX
variable {r:Unit}
def Sr(a:BD=some r):bB prog 225 [] [.az,u 0,u 0] (.bP []):=by
 refine bq func225 rfl rfl ?_;unfold BD at a;refine ak [] [(0,.az),(1,u 0),(2,u 0),(6,u 1)] []<|A.block ?_
 obtain⟨b,e,c,a⟩:=iK a;refine atN (F:=b) a (λ()=>[(0,.az),(1,u 0),(2,u 0),(6,u 1)]) (λ()=>[]) ?_ ?_
 .exact c5
 rintro d ⟨⟩ a;rw[c]at a;refine A.seq<|ai [] [] [(12,.bool false)] ?_
 refine atI rfl rfl<|A.exit ?_
 obtain rfl:=cw a;exact atv b0 [] rfl (by kernel_rfl)
def SJ{b:Int}(a:BI b=some r):bB prog 203 [] [.az,u 0,u 0,u b] (.bP []):=by
 refine bq func203 rfl rfl ?_;unfold BI at a;refine ak [] [(0,.az),(1,u 0),(2,u 0),(3,u b),(8,.bool true)] []<|ai [] [] [(9,.bool true)]<|A.block ?_
 obtain⟨c,h,d,a⟩:=iK a;refine atN (F:=c) a (λ()=>[(0,.az),(1,u 0),(2,u 0),(3,u b),(8,.bool true),(9,.bool true)]) (λ()=>[]) ?_ ?_
 .exact c5
 rintro f ⟨⟩ a;rw[d]at a;refine A.block<|ai [] [] [(10,u 0)] ?_
 refine A.seq<|ai [] [] [(23,.bool true)] ?_
 refine atS rfl rfl ?_;obtain⟨g,e,a⟩:=ah a;refine ak [(3,GC 1 (Sr e) Py)] [] [] ?_;cases a;exact A.ret aX
def SO(a:HG=some r):bB prog 164 [] [.az] (.bP []):=by
 refine bq func164 rfl rfl ?_;unfold HG at a;refine ak [] [(0,.az),(2,u 0)] [] ?_;obtain⟨d,c,a⟩:=ah a;obtain⟨e,b,a⟩:=ah a;refine jP [(4,aH (IB c) PO),(5,GC 1 (SJ b) Pt)] [] [] ?_;obtain rfl:=cw a;exact atv b0 [] rfl (by kernel_rfl)
end
section
set_option linter.all false
open Go Go.Proofs.Tryz
def auF:Shelf.Ren:=
 {  f:=λa=>match a with|189=>164|125=>152|257=>203|128=>183|129=>184|294=>225|295=>226|296=>227|297=>228|298=>229|299=>230|216=>231|300=>232|301=>233|328=>249|329=>214|330=>215|331=>250|332=>251|215=>150|343=>259|n=>n,t:=λa=>match a with|28=>22|3=>3|46=>207|0=>0|51=>234|53=>236|4=>4|183=>228|182=>227|131=>121|5=>5|9=>9|218=>258|222=>262|228=>281|229=>282|n=>n,g:=λn=>n}
def auE:Lays.n189 prog auF:=
  {mixed:=by kernel_rfl,f125:=Eq.trans func152 (congrArg some (by kernel_rfl)),f128:=Eq.trans func183 (congrArg some (by kernel_rfl)),
     f129:=Eq.trans func184 (congrArg some (by kernel_rfl)),f189:=Eq.trans func164 (congrArg some (by kernel_rfl)),f215:=Eq.trans func150 (congrArg some (by kernel_rfl)),
     f216:=Eq.trans func231 (congrArg some (by kernel_rfl)),f257:=Eq.trans func203 (congrArg some (by kernel_rfl)),f294:=Eq.trans func225 (congrArg some (by kernel_rfl)),
     f295:=Eq.trans func226 (congrArg some (by kernel_rfl)),f296:=Eq.trans func227 (congrArg some (by kernel_rfl)),f297:=Eq.trans func228 (congrArg some (by kernel_rfl)),
     f298:=Eq.trans func229 (congrArg some (by kernel_rfl)),f299:=Eq.trans func230 (congrArg some (by kernel_rfl)),f300:=Eq.trans func232 (congrArg some (by kernel_rfl)),
     f301:=Eq.trans func233 (congrArg some (by kernel_rfl)),f328:=Eq.trans func249 (congrArg some (by kernel_rfl)),f329:=Eq.trans func214 (congrArg some (by kernel_rfl)),
     f330:=Eq.trans func215 (congrArg some (by kernel_rfl)),f331:=Eq.trans func250 (congrArg some (by kernel_rfl)),f332:=Eq.trans func251 (congrArg some (by kernel_rfl)),
     f343:=Eq.trans func259 (congrArg some (by kernel_rfl)),t0:=underlying0,a0:=isAgg0,z0:=sizeOf0,v0:=zeroValue0,t3:=underlying3,a3:=isAgg3,
     z3:=sizeOf3,v3:=zeroValue3,t4:=underlying4,a4:=isAgg4,z4:=sizeOf4,v4:=zeroValue4,t5:=underlying5,a5:=isAgg5,z5:=sizeOf5,
     v5:=zeroValue5,t9:=underlying9,a9:=isAgg9,z9:=sizeOf9,v9:=zeroValue9,t28:=underlying22,a28:=isAgg22,z28:=sizeOf22,v28:=zeroValue22,
     t46:=underlying207,a46:=isAgg207,z46:=sizeOf207,v46:=zeroValue207,t51:=underlying234,a51:=isAgg234,z51:=sizeOf234,v51:=zeroValue234,
     t53:=underlying236,a53:=isAgg236,z53:=sizeOf236,v53:=zeroValue236,t131:=underlying121,a131:=isAgg121,z131:=sizeOf121,v131:=zeroValue121,
     t182:=underlying227,a182:=isAgg227,z182:=sizeOf227,v182:=zeroValue227,t183:=underlying228,a183:=isAgg228,z183:=sizeOf228,v183:=zeroValue228,
     t218:=underlying258,a218:=isAgg258,z218:=sizeOf258,v218:=zeroValue258,t222:=underlying262,a222:=isAgg262,z222:=sizeOf262,v222:=zeroValue262,
     t228:=underlying281,a228:=isAgg281,z228:=sizeOf281,v228:=zeroValue281,t229:=underlying282,a229:=isAgg282,z229:=sizeOf282,v229:=zeroValue282}
def KZ:Et prog 164:=λbK d aM f e c a b=>Any.slices_Sort_int auE bK d aM f e c a b
def zM{d T:Nat}(b:bR)(h:b.length<4611686018427387904):cp prog 164 [(d,.slice T 1 (af aW b) 0 false)] [.own d] (λa c=>a=.bP []/\c=[(d,.slice T 1 (af aW (gF b)) 0 false)]):=
 JJ KZ (SO (r:=()) (by kernel_rfl)) b h
end
section
open Go Go.Proofs.Tryz
set_option maxRecDepth 100000
set_option linter.all false
variable {Ui:Int}{r:(bR)}{t:aK}
def HJ(b:qY t Ui=some r):cp prog 171 [] [.agg (bE t),u Ui] (λa q=>a=.own 120/\q=[(120,.slice 3 1 (af aW r) 0 false)]):=by
 refine bq func171 rfl rfl ?_;unfold qY at b;refine ak [(0,.al 316)] [(1,u Ui),(2,.ptr 316 0)] [(316,.cells 41 (bE t))]<|ai [] [] [(5,.az)]<|A.seq<|aT [(2,Z (bl aD t.Links))] [2] [(9,aj aD t.Links),(10,u t.Links.length),(11,u 0)] [316] []<|A.block<|atz 9 rfl λv=>?_
 obtain⟨y,z,C,D,b⟩:=cO b;refine atx (l:=t.Links) (cD:=0) (B:=y) (K:=z) b (λc=>λe=>[(1,u Ui),(5,.own 600171005),(9,aj aD t.Links),(10,u t.Links.length),(11,u c)]) (λc=>λe=>[(600171005,.slice 3 1 (af aW e) 0 false)]) ?_ ?_ ?_
 .exact ct [.ad 5 600171005 3 1] []
 .rintro c j F e x g b;rw[C]at b;refine ai [] [] [(12,.d ((c:Int)<t.Links.length))]<|A.seq<|aJ (cT g)<|A.skip ?_
  obtain⟨n,s,b⟩:=cW b;refine A.J (J:=n) (r:=r) (λf=>[(1,u Ui),(5,.own 600171005),(9,aj aD t.Links),(10,u t.Links.length),(11,u c)]) (λf=>[(600171005,.slice 3 1 (af aW f) 0 false)]) ?_ ?_
  .refine A.block<|aT [(0,bh (ix aD (b3 g))),(2,.al 230)] [12] [(7,.ptr 230 0)] [] [(230,.cells 101 (dG j))] ?_
   refine ai [] [] [(15,u Ui)]<|A.block<|ai [] [] [(16,.d (Ui=j.A))] ?_
   rcases aC b with⟨h,b⟩|⟨h,b⟩
   .refine aJ h ?_;obtain⟨k,E,b⟩:=ah b;exact bX [(4,dH 361 (ap aW (bytes:=8) (by decide) E))] [5,7,15,16] [(5,.own 361)] [600171005,230] [(361,.slice 3 1 (af aW k) 0 false)]<|Exists.intro k (And.intro b (ct [.b5 361 600171005] []))
   refine aI h<|ai [] [15,16] [(25,.d (Ui=j.B))] ?_
   rcases aC b with⟨i,b⟩|⟨i,b⟩
   .refine aJ i ?_;obtain⟨m,o,b⟩:=ah b;exact bX [(4,dH 362 (ap aW (bytes:=8) (by decide) o))] [5,7,25] [(5,.own 362)] [600171005,230] [(362,.slice 3 1 (af aW m) 0 false)]<|Exists.intro m (And.intro b (ct [.b5 362 600171005] []))
   exact aI i<|A.skip<|aV e b
  rintro f b;rw[s]at b;exact bu [(0,Z (cQ g v))] [11] [(11,u ((c+1:Nat):Int))]<|aV f b
 rintro c e x w b;rw[D]at b;refine ai [] [] [(12,.d ((c:Int)<t.Links.length))]<|A.seq<|aI (cS w)<|A.exit ?_
 obtain⟨p,b⟩:=hA b;refine ak [(1,bV [] (zM (d:=600171005) (T:=3) e (of_decide_eq_true p)) A1)] [(5,.own 600171005)] [(600171005,.slice 3 1 (af aW (gF e)) 0 false)]<|ai [] [5] [(4,.own 600171005)]<|A.ret ?_
 obtain rfl:=cw b;exact atv b0 [.b5 600171005 120] rfl (by kernel_rfl)
def SV:∀(m:Nat) {i:Int} {h:bR} {d:bR} {e:pK} {f:jC} {r:(bR)} (b:q4 m i h d e f=some r),cp prog 174 [(95,.c 22 [.own 188]),(109,.c 22 [aj aW d]),(88,.c 41 [aj bz e,aj aD f]),(73,.c 127 [.fn 174 [.ptr 95 0,.ptr 109 0,.ptr 88 0,.ptr 73 0]]),(188,.slice 3 1 (af aW h) 0 false)] [u i,.ptr 95 0,.ptr 109 0,.ptr 88 0,.ptr 73 0] (λa D=>a=.bP []/\D=[(95,.c 22 [.own 305]),(109,.c 22 [aj aW d]),(88,.c 41 [aj bz e,aj aD f]),(73,.c 127 [.fn 174 [.ptr 95 0,.ptr 109 0,.ptr 88 0,.ptr 73 0]]),(305,.slice 3 1 (af aW r) 0 false)]):=by
 intro m;induction m with
 |zero=>intros;rename_i b;cases b
 |succ m F=>
 intro i h d e f r b;refine bq func174 rfl rfl ?_;rw[q4]at b;refine A.seq ?_;obtain⟨x,E,b⟩:=cW b;refine A.J (J:=x) (r:=r) (λn=>[(0,u i),(1,.ptr 95 0),(3,.ptr 88 0),(4,.ptr 73 0),(15,.bool n)]) (λn=>[(95,.c 22 [.own 188]),(109,.c 22 [aj aW d]),(88,.c 41 [aj bz e,aj aD f]),(73,.c 127 [.fn 174 [.ptr 95 0,.ptr 109 0,.ptr 88 0,.ptr 73 0]]),(188,.slice 3 1 (af aW h) 0 false)]) ?_ ?_
 .obtain⟨R,t,b⟩:=ah b;rcases aC b with⟨o,b⟩|⟨o,b⟩
  .exact jP [(2,bp [188] (xp t) wE),(3,Z (ax o))] [(0,u i),(1,.ptr 95 0),(3,.ptr 88 0),(4,.ptr 73 0),(15,.bool true)] [(95,.c 22 [.own 188]),(109,.c 22 [aj aW d]),(88,.c 41 [aj bz e,aj aD f]),(73,.c 127 [.fn 174 [.ptr 95 0,.ptr 109 0,.ptr 88 0,.ptr 73 0]]),(188,.slice 3 1 (af aW h) 0 false)]<|aV true b
  obtain⟨s,z,b⟩:=ah b;exact jP [(2,bp [188] (xp t) wE),(3,Z (ax o)),(6,aH (xp z) wE)] [(0,u i),(1,.ptr 95 0),(3,.ptr 88 0),(4,.ptr 73 0),(15,.bool s)] [(95,.c 22 [.own 188]),(109,.c 22 [aj aW d]),(88,.c 41 [aj bz e,aj aD f]),(73,.c 127 [.fn 174 [.ptr 95 0,.ptr 109 0,.ptr 88 0,.ptr 73 0]]),(188,.slice 3 1 (af aW h) 0 false)]<|aV s b
 rintro n b;rw[E]at b;rcases aC b with⟨p,b⟩|⟨p,b⟩
 .refine aJ p<|A.ret ?_
  obtain rfl:=cw b;exact atv b0 [.rn 188 305] rfl (by kernel_rfl)
 refine aI p<|A.skip ?_
 obtain⟨y,C,b⟩:=ah b;refine aT [(3,dH 283 (ap aW (bytes:=8) (by decide) C))] [1,15] [] [95,188] [(95,.c 22 [.own 283]),(283,.slice 3 1 (af aW y) 0 false)] ?_;obtain⟨c,w,b⟩:=ah b;refine aT [(2,bV [120] (HJ w) Gu),(3,Z (bl aW c))] [0,3] [(22,.own 120),(23,u c.length),(24,u 0)] [] [(120,.slice 3 1 (af aW c) 0 false)]<|A.block<|aun 22 rfl rfl λG=>?_
 obtain⟨L,M,N,O,b⟩:=cO b;refine atx (l:=c) (cD:=0) (B:=L) (K:=M) b (λg=>λj=>[(4,.ptr 73 0),(22,.own 120),(23,u c.length),(24,u g)]) (λg=>λj=>[(95,.c 22 [.own 197]),(109,.c 22 [aj aW d]),(88,.c 41 [aj bz e,aj aD f]),(73,.c 127 [.fn 174 [.ptr 95 0,.ptr 109 0,.ptr 88 0,.ptr 73 0]]),(120,.slice 3 1 (af aW c) 0 false),(197,.slice 3 1 (af aW j) 0 false)]) ?_ ?_ ?_
 .exact ct [.b5 283 197] []
 .rintro g P Q j I k b;rw[N]at b;refine ai [] [] [(25,.d ((g:Int)<c.length))]<|A.seq<|aJ (cT k)<|A.skip<|A.seq<|A.block<|ai [(0,bh (ix aW (b3 k))),(1,eK 120 0 (ix aW (b3 k)))] [25] [(7,u P)] ?_
  obtain⟨q,v,b⟩:=ah b;exact bX [(2,bV [274] (ep.at [(188,197),(305,274)] (F v)) Gv)] [7] [] [95,197] [(95,.c 22 [.own 274]),(274,.slice 3 1 (af aW q) 0 false)]<|bu [(0,Z (cQ k G))] [24] [(24,u ((g+1:Nat):Int))]<|Exists.intro q (And.intro b (ct [.b5 274 197] []))
 rintro g j I H b;rw[O]at b;refine ai [] [] [(25,.d ((g:Int)<c.length))]<|A.seq<|aI (cS H)<|A.exit ?_
 obtain rfl:=cw b;exact atv b0 [.b5 197 305] rfl (by kernel_rfl)
def S6{c:Int}{e:bR}(a:tX t c e=some r):bB prog 146 [] [.agg (bE t),u c,aj aW e] (aj aW r):=by
 refine bq func146 rfl rfl ?_;unfold tX at a;refine ak [(0,.al 219),(1,.al 220)] [(1,u c),(3,.ptr 219 0),(5,.ptr 220 0)] [(219,.cells 41 (bE t)),(220,.c 22 [aj aW e])]<|aT [(0,.al 174)] [] [(7,.ptr 174 0)] [] [(174,.c 22 [.az])]<|aT [(0,.al 250)] [] [(8,.ptr 250 0)] [] [(250,.c 127 [.c7])]<|aT [] [3,5] [] [250] [(250,.c 127 [.fn 174 [.ptr 174 0,.ptr 220 0,.ptr 219 0,.ptr 250 0]])] ?_
 obtain⟨b,g,a⟩:=ah a;refine atV b0 [.ac 174 188 3 1 0] [(2,bV [520146001] (ep.at [(95,174),(109,220),(88,219),(73,250),(305,520146001)] (SV fuel g)) Gv)] [(7,.ptr 174 0)] [(174,.c 22 [.own 520146001]),(520146001,.slice 3 1 (af aW b) 0 false)] (by kernel_rfl) ?_;obtain⟨f,a⟩:=hA a;refine ak [(1,bV [] (zM (d:=520146001) (T:=3) b (of_decide_eq_true f)) A1)] [(7,.ptr 174 0)] [(174,.c 22 [.own 520146001]),(520146001,.slice 3 1 (af aW (gF b)) 0 false)]<|aT [] [7] [(6,.own 520146001)] [174] []<|A.ret ?_
 obtain rfl:=cw a;exact atv b0 [.bN [520146001]] rfl (by kernel_rfl)
def SY(b:tM t Ui=some r):cp prog 136 [] [.agg (bE t),u Ui] (λa f=>a=.own 136/\f=[(136,.slice 3 1 (af aW r) 0 false)]):=by
 refine bq func136 rfl rfl ?_;unfold tM at b;refine ak [(0,.al 311)] [(1,u Ui),(2,.ptr 311 0)] [(311,.cells 41 (bE t))]<|A.seq ?_
 obtain⟨e,h,b⟩:=ah b;refine ai [(1,aH (q6 h) qt)] [] [(7,.bool (!e))] ?_;rcases aC b with⟨c,b⟩|⟨c,b⟩
 .refine aJ c<|ak [] [(4,.az)] []<|A.ret ?_
  obtain rfl:=cw b;exact atv b0 [.ad 4 136 3 1] rfl (by kernel_rfl)
 refine aI c<|A.skip ?_
 obtain⟨g,d,b⟩:=ah b;refine ak [(2,bV [120] (HJ d) Gu)] [(4,.own 120)] [(120,.slice 3 1 (af aW g) 0 false)]<|A.ret ?_
 obtain rfl:=cw b;exact atv b0 [.b5 120 136] rfl (by kernel_rfl)
def HN{a:Int}{b:Int}{r:Bool}(c:q5 t a b=some r):bB prog 77 [] [.agg (bE t),u a,u b] (.bool r):=by
 refine bq func77 rfl rfl ?_;unfold q5 at c;refine ak [(0,.al 456)] [(1,u a),(2,u b),(3,.ptr 456 0)] [(456,.cells 41 (bE t))] ?_;obtain⟨l,f,c⟩:=ah c;rcases aC c with⟨d,c⟩|⟨d,c⟩
 .obtain⟨m,g,c⟩:=ah c;rcases aC c with⟨e,c⟩|⟨e,c⟩
  .obtain⟨k,j,c⟩:=ah c;obtain⟨i,h,c⟩:=ah c;refine ak [(2,aH (nT f) nI),(3,Z (ax d)),(6,aH (nT g) nI),(8,Z (ax e)),(11,aH (S6 j) PL),(13,aH (xp h) wE)] [(6,.bool i)] [] ?_;cases c;exact A.ret aX
  refine ak [(2,aH (nT f) nI),(3,Z (ax d)),(6,aH (nT g) nI),(8,Z (ax e))] [(6,.bool false)] [] ?_;cases c;exact A.ret aX
 refine ak [(2,aH (nT f) nI),(3,Z (ax d))] [(6,.bool false)] [] ?_;cases c;exact A.ret aX
variable {r:Int}
def Ir{a:bk}{b:bk}(c:xV a b=some r):bB prog 95 [] [.agg (ha a),.agg (ha b)] (u r):=by
 refine bq func95 rfl rfl ?_;unfold xV at c;refine ak [(0,.al 464),(1,.al 465)] [(2,.ptr 464 0),(3,.ptr 465 0)] [(464,.cells 79 (ha a)),(465,.cells 79 (ha b))] ?_;obtain⟨d,e,c⟩:=ah c;refine ak [(4,aH (jE e) jZ)] [(4,u d)] [] ?_;cases c;exact A.ret aX
def Is{a:aR}{b:aR}(c:xW a b=some r):bB prog 97 [] [.agg (dG a),.agg (dG b)] (u r):=by
 refine bq func97 rfl rfl ?_;unfold xW at c;refine ak [(0,.al 466),(1,.al 467)] [(2,.ptr 466 0),(3,.ptr 467 0)] [(466,.cells 101 (dG a)),(467,.cells 101 (dG b))] ?_;obtain⟨h,g,c⟩:=ah c;obtain⟨i,e,c⟩:=ah c;obtain⟨d,f,c⟩:=ah c;refine ak [(4,aH (jE g) jZ),(9,aH (jE e) jZ),(11,aH (x7 f) w3)] [(4,u d)] [] ?_;cases c;exact A.ret aX
def It{a:cB}{b:cB}(c:xX a b=some r):bB prog 202 [] [.agg (nY a),.agg (nY b)] (u r):=by
 refine bq func202 rfl rfl ?_;unfold xX at c;refine ak [(0,.al 420),(1,.al 421)] [(2,.ptr 420 0),(3,.ptr 421 0)] [(420,.cells 249 (nY a)),(421,.cells 249 (nY b))] ?_;obtain⟨d,e,c⟩:=ah c;refine ak [(4,aH (jE e) jZ)] [(4,u d)] [] ?_;cases c;exact A.ret aX
def Iu{a:cF}{b:cF}(c:xY a b=some r):bB prog 103 [] [.agg (i2 a),.agg (i2 b)] (u r):=by
 refine bq func103 rfl rfl ?_;unfold xY at c;refine ak [(0,.al 391),(1,.al 392)] [(2,.ptr 391 0),(3,.ptr 392 0)] [(391,.cells 166 (i2 a)),(392,.cells 166 (i2 b))] ?_;obtain⟨d,e,c⟩:=ah c;refine ak [(4,aH (jE e) jZ)] [(4,u d)] [] ?_;cases c;exact A.ret aX
end
section
set_option linter.all false
open Go Go.Proofs.Tryz Go.Sort Go.Lib Go.Shelf Go.RowKit
set_option maxRecDepth 100000
def qu(x y:Int):Int:=if x<y then -1 else if y<x then 1 else 0
def vR(x y:Int):hI x y=some (qu x y):=by
 unfold hI rA qu;by_cases a:x<y
 .simp[a,aa]
 .by_cases b:y<x<;>simp[a,b,aa]
def auC:Shelf.Ren:=
 {  f:=λa=>match a with|6=>94|15=>152|14=>151|28=>183|29=>184|20=>175|21=>176|22=>177|23=>178|24=>179|25=>180|26=>181|27=>182|46=>213|47=>214|48=>215|49=>216|50=>217|57=>238|n=>n,t:=λa=>match a with|22=>39|24=>79|25=>156|3=>3|39=>207|0=>0|53=>234|55=>236|4=>4|46=>228|45=>227|50=>121|5=>5|9=>9|66=>258|70=>262|76=>281|77=>282|n=>n,g:=λn=>n}
def aue:SlLaysF0.n6 prog auC:=
  {mixed:=by kernel_rfl,f6:=⟨ "slices.SortFunc[[]bitcast/api.Router,bitcast/api.Router]",of_decide_eq_true (by kernel_rfl),func94.trans (by kernel_rfl)⟩,
   f14:=⟨ "slices.pdqsortCmpFunc[bitcast/api.Router]",of_decide_eq_true (by kernel_rfl),func151.trans (by kernel_rfl)⟩,f15:=func152.trans (by kernel_rfl),
   f20:=⟨ "slices.insertionSortCmpFunc[bitcast/api.Router]",of_decide_eq_true (by kernel_rfl),func175.trans (by kernel_rfl)⟩,f21:=⟨ "slices.heapSortCmpFunc[bitcast/api.Router]",
   of_decide_eq_true (by kernel_rfl),func176.trans (by kernel_rfl)⟩,f22:=⟨ "slices.breakPatternsCmpFunc[bitcast/api.Router]",of_decide_eq_true (by kernel_rfl),func177.trans (by kernel_rfl)⟩,
   f23:=⟨ "slices.choosePivotCmpFunc[bitcast/api.Router]",of_decide_eq_true (by kernel_rfl),func178.trans (by kernel_rfl)⟩,f24:=⟨ "slices.reverseRangeCmpFunc[bitcast/api.Router]",
   of_decide_eq_true (by kernel_rfl),func179.trans (by kernel_rfl)⟩,f25:=⟨ "slices.partialInsertionSortCmpFunc[bitcast/api.Router]",of_decide_eq_true (by kernel_rfl),
   func180.trans (by kernel_rfl)⟩,f26:=⟨ "slices.partitionEqualCmpFunc[bitcast/api.Router]",of_decide_eq_true (by kernel_rfl),func181.trans (by kernel_rfl)⟩,
   f27:=⟨ "slices.partitionCmpFunc[bitcast/api.Router]",of_decide_eq_true (by kernel_rfl),func182.trans (by kernel_rfl)⟩,f28:=func183.trans (by kernel_rfl),
   f29:=func184.trans (by kernel_rfl),f46:=⟨ "slices.siftDownCmpFunc[bitcast/api.Router]",of_decide_eq_true (by kernel_rfl),func213.trans (by kernel_rfl)⟩,
   f47:=func214.trans (by kernel_rfl),f48:=func215.trans (by kernel_rfl),f49:=⟨ "slices.medianAdjacentCmpFunc[bitcast/api.Router]",of_decide_eq_true (by kernel_rfl),
   func216.trans (by kernel_rfl)⟩,f50:=⟨ "slices.medianCmpFunc[bitcast/api.Router]",of_decide_eq_true (by kernel_rfl),func217.trans (by kernel_rfl)⟩,
   f57:=⟨ "slices.order2CmpFunc[bitcast/api.Router]",of_decide_eq_true (by kernel_rfl),func238.trans (by kernel_rfl)⟩,t0:=underlying0,a0:=isAgg0,z0:=sizeOf0,
   v0:=zeroValue0,t3:=underlying3,a3:=isAgg3,z3:=sizeOf3,v3:=zeroValue3,t4:=underlying4,a4:=isAgg4,z4:=sizeOf4,v4:=zeroValue4,
   t5:=underlying5,a5:=isAgg5,z5:=sizeOf5,v5:=zeroValue5,t9:=underlying9,a9:=isAgg9,z9:=sizeOf9,v9:=zeroValue9,t22:=underlying39,
   a22:=isAgg39,z22:=sizeOf39,v22:=zeroValue39,t25:=underlying156,a25:=isAgg156,z25:=sizeOf156,v25:=zeroValue156,t39:=underlying207,
   a39:=isAgg207,z39:=sizeOf207,v39:=zeroValue207,t45:=underlying227,a45:=isAgg227,z45:=sizeOf227,v45:=zeroValue227,t46:=underlying228,
   a46:=isAgg228,z46:=sizeOf228,v46:=zeroValue228,t50:=underlying121,a50:=isAgg121,z50:=sizeOf121,v50:=zeroValue121,t53:=underlying234,
   a53:=isAgg234,z53:=sizeOf234,v53:=zeroValue234,t55:=underlying236,a55:=isAgg236,z55:=sizeOf236,v55:=zeroValue236,t66:=underlying258,
   a66:=isAgg258,z66:=sizeOf258,v66:=zeroValue258,t70:=underlying262,a70:=isAgg262,z70:=sizeOf262,v70:=zeroValue262,t76:=underlying281,
   a76:=isAgg281,z76:=sizeOf281,v76:=zeroValue281,t77:=underlying282,a77:=isAgg282,z77:=sizeOf282,v77:=zeroValue282}
def sw(x:bk):cR:=[.int .i64 x.aP,.bool x.bw]
def SM(I:aZ)(x:bk)(vs:cR):bJ I (bz.enc x) vs↔vs=sw x:=by
 show bJ I [.int .i64 x.aP,.bool x.bw] vs↔vs=_;simp only[bJ,aS];constructor
 .rintro⟨_,_,rfl,rfl,⟨_,_,rfl,rfl,rfl⟩⟩;rfl
 .rintro rfl;exact⟨_,_,rfl,rfl,⟨_,_,rfl,rfl,rfl⟩⟩
def SN(I:aZ)(β:Nat->Value)(x:bk):br I β (bz.enc x) (sw x):=by
 show br I β [.int .i64 x.aP,.bool x.bw] _;simp only[br,au,aS];exact⟨_,_,rfl,rfl,⟨_,_,rfl,rfl,rfl⟩⟩
def SL(x:bk):∀v∈sw x,v.oneCell'=true:=by
 intro v a;simp only[sw,List.mem_cons,List.not_mem_nil,or_false]at a;rcases a with rfl|rfl<;>rfl
def Q3(a b:bk):xV a b=some (dQ [λx:bk=>x.aP] a b):=by
 unfold xV;simp only[vR];unfold qu dQ;simp only[aa,dQ]
def Ob:sS prog 94 95 sw 2 (dQ [λx:bk=>x.aP]):=λbK b aM a c f d e=>
 AnyQ.slices_SortFunc aue 2 isAgg79 sizeOf79 sw (λ_=>rfl) SL _ (vO _) 95 #[] bK b aM a c (enters_of func95 (by kernel_rfl) rfl)
  (yL SN (λx g=>Ir (Q3 x g)) bK b a.size c) f d e
def M7{d T:Nat}{a ys:pK}(h:hK (dQ [λx:bk=>x.aP]) a=some ys):cp prog 94 [(d,.slice T 2 (af bz a) 0 false)] [.own d,.fn 95 []] (λr b=>r=.bP []/\b=[(d,.slice T 2 (af bz ys) 0 false)]):=
 yW SM (by decide) (λ_=>rfl) (λ_=>rfl) (oa _) Ob (λe aM c f=>AnyF.slices_SortFunc_none aue e aM c f) h
def auD:Shelf.Ren:=
 {  f:=λa=>match a with|6=>96|15=>152|14=>153|28=>183|29=>184|20=>185|21=>186|22=>187|23=>188|24=>189|25=>190|26=>191|27=>192|46=>218|47=>214|48=>215|49=>219|50=>220|57=>239|n=>n,t:=λa=>match a with|22=>25|24=>101|25=>158|3=>3|39=>207|0=>0|53=>234|55=>236|4=>4|46=>228|45=>227|50=>121|5=>5|9=>9|66=>258|70=>262|76=>281|77=>282|n=>n,g:=λn=>n}
def auf:SlLaysF0.n6 prog auD:=
  {mixed:=by kernel_rfl,f6:=⟨ "slices.SortFunc[[]bitcast/api.Link,bitcast/api.Link]",of_decide_eq_true (by kernel_rfl),func96.trans (by kernel_rfl)⟩,
   f14:=⟨ "slices.pdqsortCmpFunc[bitcast/api.Link]",of_decide_eq_true (by kernel_rfl),func153.trans (by kernel_rfl)⟩,f15:=func152.trans (by kernel_rfl),
   f20:=⟨ "slices.insertionSortCmpFunc[bitcast/api.Link]",of_decide_eq_true (by kernel_rfl),func185.trans (by kernel_rfl)⟩,f21:=⟨ "slices.heapSortCmpFunc[bitcast/api.Link]",
   of_decide_eq_true (by kernel_rfl),func186.trans (by kernel_rfl)⟩,f22:=⟨ "slices.breakPatternsCmpFunc[bitcast/api.Link]",of_decide_eq_true (by kernel_rfl),func187.trans (by kernel_rfl)⟩,
   f23:=⟨ "slices.choosePivotCmpFunc[bitcast/api.Link]",of_decide_eq_true (by kernel_rfl),func188.trans (by kernel_rfl)⟩,f24:=⟨ "slices.reverseRangeCmpFunc[bitcast/api.Link]",
   of_decide_eq_true (by kernel_rfl),func189.trans (by kernel_rfl)⟩,f25:=⟨ "slices.partialInsertionSortCmpFunc[bitcast/api.Link]",of_decide_eq_true (by kernel_rfl),
   func190.trans (by kernel_rfl)⟩,f26:=⟨ "slices.partitionEqualCmpFunc[bitcast/api.Link]",of_decide_eq_true (by kernel_rfl),func191.trans (by kernel_rfl)⟩,
   f27:=⟨ "slices.partitionCmpFunc[bitcast/api.Link]",of_decide_eq_true (by kernel_rfl),func192.trans (by kernel_rfl)⟩,f28:=func183.trans (by kernel_rfl),
   f29:=func184.trans (by kernel_rfl),f46:=⟨ "slices.siftDownCmpFunc[bitcast/api.Link]",of_decide_eq_true (by kernel_rfl),func218.trans (by kernel_rfl)⟩,
   f47:=func214.trans (by kernel_rfl),f48:=func215.trans (by kernel_rfl),f49:=⟨ "slices.medianAdjacentCmpFunc[bitcast/api.Link]",of_decide_eq_true (by kernel_rfl),
   func219.trans (by kernel_rfl)⟩,f50:=⟨ "slices.medianCmpFunc[bitcast/api.Link]",of_decide_eq_true (by kernel_rfl),func220.trans (by kernel_rfl)⟩,
   f57:=⟨ "slices.order2CmpFunc[bitcast/api.Link]",of_decide_eq_true (by kernel_rfl),func239.trans (by kernel_rfl)⟩,t0:=underlying0,a0:=isAgg0,z0:=sizeOf0,
   v0:=zeroValue0,t3:=underlying3,a3:=isAgg3,z3:=sizeOf3,v3:=zeroValue3,t4:=underlying4,a4:=isAgg4,z4:=sizeOf4,v4:=zeroValue4,
   t5:=underlying5,a5:=isAgg5,z5:=sizeOf5,v5:=zeroValue5,t9:=underlying9,a9:=isAgg9,z9:=sizeOf9,v9:=zeroValue9,t22:=underlying25,
   a22:=isAgg25,z22:=sizeOf25,v22:=zeroValue25,t25:=underlying158,a25:=isAgg158,z25:=sizeOf158,v25:=zeroValue158,t39:=underlying207,
   a39:=isAgg207,z39:=sizeOf207,v39:=zeroValue207,t45:=underlying227,a45:=isAgg227,z45:=sizeOf227,v45:=zeroValue227,t46:=underlying228,
   a46:=isAgg228,z46:=sizeOf228,v46:=zeroValue228,t50:=underlying121,a50:=isAgg121,z50:=sizeOf121,v50:=zeroValue121,t53:=underlying234,
   a53:=isAgg234,z53:=sizeOf234,v53:=zeroValue234,t55:=underlying236,a55:=isAgg236,z55:=sizeOf236,v55:=zeroValue236,t66:=underlying258,
   a66:=isAgg258,z66:=sizeOf258,v66:=zeroValue258,t70:=underlying262,a70:=isAgg262,z70:=sizeOf262,v70:=zeroValue262,t76:=underlying281,
   a76:=isAgg281,z76:=sizeOf281,v76:=zeroValue281,t77:=underlying282,a77:=isAgg282,z77:=sizeOf282,v77:=zeroValue282}
def sk(x:aR):cR:=[.int .i64 x.A,.int .i64 x.B,.int .i64 x.gn,.int .i64 x.gd,.int .i64 x.dW]
def QF(I:aZ)(x:aR)(vs:cR):bJ I (aD.enc x) vs↔vs=sk x:=by
 show bJ I [.int .i64 x.A,.int .i64 x.B,.int .i64 x.gn,.int .i64 x.gd,.int .i64 x.dW] vs↔vs=_;simp only[bJ,aS];constructor
 .rintro⟨_,_,rfl,rfl,⟨_,_,rfl,rfl,⟨_,_,rfl,rfl,⟨_,_,rfl,rfl,⟨_,_,rfl,rfl,rfl⟩⟩⟩⟩⟩;rfl
 .rintro rfl;exact⟨_,_,rfl,rfl,⟨_,_,rfl,rfl,⟨_,_,rfl,rfl,⟨_,_,rfl,rfl,⟨_,_,rfl,rfl,rfl⟩⟩⟩⟩⟩
def QG(I:aZ)(β:Nat->Value)(x:aR):br I β (aD.enc x) (sk x):=by
 show br I β [.int .i64 x.A,.int .i64 x.B,.int .i64 x.gn,.int .i64 x.gd,.int .i64 x.dW] _;simp only[br,au,aS];exact⟨_,_,rfl,rfl,⟨_,_,rfl,rfl,⟨_,_,rfl,rfl,⟨_,_,rfl,rfl,⟨_,_,rfl,rfl,rfl⟩⟩⟩⟩⟩
def QH(x:aR):∀v∈sk x,v.oneCell'=true:=by
 intro v a;simp only[sk,List.mem_cons,List.not_mem_nil,or_false]at a;rcases a with rfl|rfl|rfl|rfl|rfl<;>rfl
def Q4(a b:aR):xW a b=some (dQ [λx:aR=>x.A,λx:aR=>x.B] a b):=by
 unfold xW m4;simp only[vR,qu,dQ];rcases Int.lt_trichotomy a.A b.A with c|c|c<;>rcases Int.lt_trichotomy a.B b.B with d|d|d<;>simp[aa,bL,c,d]<;>(repeat (first|rw[if_neg (by omega)]|rw[if_pos (by omega)]))<;>simp
def Oc:sS prog 96 97 sk 5 (dQ [λx:aR=>x.A,λx:aR=>x.B]):=λbK b aM a c f d e=>
 AnyQ.slices_SortFunc auf 5 isAgg101 sizeOf101 sk (λ_=>rfl) QH _ (vO _) 97 #[] bK b aM a c (enters_of func97 (by kernel_rfl) rfl)
  (yL QG (λx g=>Is (Q4 x g)) bK b a.size c) f d e
def M9{d T:Nat}{a ys:jC}(h:hK (dQ [λx:aR=>x.A,λx:aR=>x.B]) a=some ys):cp prog 96 [(d,.slice T 5 (af aD a) 0 false)] [.own d,.fn 97 []] (λr b=>r=.bP []/\b=[(d,.slice T 5 (af aD ys) 0 false)]):=
 yW QF (by decide) (λ_=>rfl) (λ_=>rfl) (oa _) Oc (λe aM c f=>AnyF.slices_SortFunc_none auf e aM c f) h
def auA:Shelf.Ren:=
 {  f:=λa=>match a with|6=>201|15=>152|14=>224|28=>183|29=>184|20=>241|21=>242|22=>243|23=>244|24=>245|25=>246|26=>247|27=>248|46=>256|47=>214|48=>215|49=>257|50=>258|57=>264|n=>n,t:=λa=>match a with|22=>247|24=>249|25=>251|3=>3|39=>207|0=>0|53=>234|55=>236|4=>4|46=>228|45=>227|50=>121|5=>5|9=>9|66=>258|70=>262|76=>281|77=>282|n=>n,g:=λn=>n}
def auc:SlLaysF0.n6 prog auA:=
  {mixed:=by kernel_rfl,f6:=⟨ "slices.SortFunc[[]bitcast/shortest.step,bitcast/shortest.step]",of_decide_eq_true (by kernel_rfl),func201.trans (by kernel_rfl)⟩,
   f14:=⟨ "slices.pdqsortCmpFunc[bitcast/shortest.step]",of_decide_eq_true (by kernel_rfl),func224.trans (by kernel_rfl)⟩,f15:=func152.trans (by kernel_rfl),
   f20:=⟨ "slices.insertionSortCmpFunc[bitcast/shortest.step]",of_decide_eq_true (by kernel_rfl),func241.trans (by kernel_rfl)⟩,f21:=⟨ "slices.heapSortCmpFunc[bitcast/shortest.step]",
   of_decide_eq_true (by kernel_rfl),func242.trans (by kernel_rfl)⟩,f22:=⟨ "slices.breakPatternsCmpFunc[bitcast/shortest.step]",of_decide_eq_true (by kernel_rfl),
   func243.trans (by kernel_rfl)⟩,f23:=⟨ "slices.choosePivotCmpFunc[bitcast/shortest.step]",of_decide_eq_true (by kernel_rfl),func244.trans (by kernel_rfl)⟩,
   f24:=⟨ "slices.reverseRangeCmpFunc[bitcast/shortest.step]",of_decide_eq_true (by kernel_rfl),func245.trans (by kernel_rfl)⟩,
   f25:=⟨ "slices.partialInsertionSortCmpFunc[bitcast/shortest.step]",of_decide_eq_true (by kernel_rfl),func246.trans (by kernel_rfl)⟩,
   f26:=⟨ "slices.partitionEqualCmpFunc[bitcast/shortest.step]",of_decide_eq_true (by kernel_rfl),func247.trans (by kernel_rfl)⟩,f27:=⟨ "slices.partitionCmpFunc[bitcast/shortest.step]",
   of_decide_eq_true (by kernel_rfl),func248.trans (by kernel_rfl)⟩,f28:=func183.trans (by kernel_rfl),f29:=func184.trans (by kernel_rfl),
   f46:=⟨ "slices.siftDownCmpFunc[bitcast/shortest.step]",of_decide_eq_true (by kernel_rfl),func256.trans (by kernel_rfl)⟩,f47:=func214.trans (by kernel_rfl),
   f48:=func215.trans (by kernel_rfl),f49:=⟨ "slices.medianAdjacentCmpFunc[bitcast/shortest.step]",of_decide_eq_true (by kernel_rfl),func257.trans (by kernel_rfl)⟩,
   f50:=⟨ "slices.medianCmpFunc[bitcast/shortest.step]",of_decide_eq_true (by kernel_rfl),func258.trans (by kernel_rfl)⟩,f57:=⟨ "slices.order2CmpFunc[bitcast/shortest.step]",
   of_decide_eq_true (by kernel_rfl),func264.trans (by kernel_rfl)⟩,t0:=underlying0,a0:=isAgg0,z0:=sizeOf0,v0:=zeroValue0,t3:=underlying3,a3:=isAgg3,
   z3:=sizeOf3,v3:=zeroValue3,t4:=underlying4,a4:=isAgg4,z4:=sizeOf4,v4:=zeroValue4,t5:=underlying5,a5:=isAgg5,z5:=sizeOf5,
   v5:=zeroValue5,t9:=underlying9,a9:=isAgg9,z9:=sizeOf9,v9:=zeroValue9,t22:=underlying247,a22:=isAgg247,z22:=sizeOf247,v22:=zeroValue247,
   t25:=underlying251,a25:=isAgg251,z25:=sizeOf251,v25:=zeroValue251,t39:=underlying207,a39:=isAgg207,z39:=sizeOf207,v39:=zeroValue207,
   t45:=underlying227,a45:=isAgg227,z45:=sizeOf227,v45:=zeroValue227,t46:=underlying228,a46:=isAgg228,z46:=sizeOf228,v46:=zeroValue228,
   t50:=underlying121,a50:=isAgg121,z50:=sizeOf121,v50:=zeroValue121,t53:=underlying234,a53:=isAgg234,z53:=sizeOf234,v53:=zeroValue234,
   t55:=underlying236,a55:=isAgg236,z55:=sizeOf236,v55:=zeroValue236,t66:=underlying258,a66:=isAgg258,z66:=sizeOf258,v66:=zeroValue258,
   t70:=underlying262,a70:=isAgg262,z70:=sizeOf262,v70:=zeroValue262,t76:=underlying281,a76:=isAgg281,z76:=sizeOf281,v76:=zeroValue281,
   t77:=underlying282,a77:=isAgg282,z77:=sizeOf282,v77:=zeroValue282}
def sn(x:cB):cR:=[.int .i64 x.dx,.int .i64 x.fC]
def QI(I:aZ)(x:cB)(vs:cR):bJ I (cy.enc x) vs↔vs=sn x:=by
 show bJ I [.int .i64 x.dx,.int .i64 x.fC] vs↔vs=_;simp only[bJ,aS];constructor
 .rintro⟨_,_,rfl,rfl,⟨_,_,rfl,rfl,rfl⟩⟩;rfl
 .rintro rfl;exact⟨_,_,rfl,rfl,⟨_,_,rfl,rfl,rfl⟩⟩
def QJ(I:aZ)(β:Nat->Value)(x:cB):br I β (cy.enc x) (sn x):=by
 show br I β [.int .i64 x.dx,.int .i64 x.fC] _;simp only[br,au,aS];exact⟨_,_,rfl,rfl,⟨_,_,rfl,rfl,rfl⟩⟩
def QK(x:cB):∀v∈sn x,v.oneCell'=true:=by
 intro v a;simp only[sn,List.mem_cons,List.not_mem_nil,or_false]at a;rcases a with rfl|rfl<;>rfl
def QL(a b:cB):xX a b=some (dQ [λx:cB=>x.dx] a b):=by
 unfold xX;simp only[vR];unfold qu dQ;simp only[aa,dQ]
def Na:sS prog 201 202 sn 2 (dQ [λx:cB=>x.dx]):=λbK b aM a c f d e=>
 AnyQ.slices_SortFunc auc 2 isAgg249 sizeOf249 sn (λ_=>rfl) QK _ (vO _) 202 #[] bK b aM a c (enters_of func202 (by kernel_rfl) rfl)
  (yL QJ (λx g=>It (QL x g)) bK b a.size c) f d e
def K1{d T:Nat}{a ys:p4}(h:hK (dQ [λx:cB=>x.dx]) a=some ys):cp prog 201 [(d,.slice T 2 (af cy a) 0 false)] [.own d,.fn 202 []] (λr b=>r=.bP []/\b=[(d,.slice T 2 (af cy ys) 0 false)]):=
 yW QI (by decide) (λ_=>rfl) (λ_=>rfl) (oa _) Na (λe aM c f=>AnyF.slices_SortFunc_none auc e aM c f) h
def auB:Shelf.Ren:=
 {  f:=λa=>match a with|6=>102|15=>152|14=>155|28=>183|29=>184|20=>193|21=>194|22=>195|23=>196|24=>197|25=>198|26=>199|27=>200|46=>221|47=>214|48=>215|49=>222|50=>223|57=>240|n=>n,t:=λa=>match a with|22=>42|24=>166|25=>168|3=>3|39=>207|0=>0|53=>234|55=>236|4=>4|46=>228|45=>227|50=>121|5=>5|9=>9|66=>258|70=>262|76=>281|77=>282|n=>n,g:=λn=>n}
def aud:SlLaysF0.n6 prog auB:=
  {mixed:=by kernel_rfl,f6:=⟨ "slices.SortFunc[[]bitcast/api.Edge,bitcast/api.Edge]",of_decide_eq_true (by kernel_rfl),func102.trans (by kernel_rfl)⟩,
   f14:=⟨ "slices.pdqsortCmpFunc[bitcast/api.Edge]",of_decide_eq_true (by kernel_rfl),func155.trans (by kernel_rfl)⟩,f15:=func152.trans (by kernel_rfl),
   f20:=⟨ "slices.insertionSortCmpFunc[bitcast/api.Edge]",of_decide_eq_true (by kernel_rfl),func193.trans (by kernel_rfl)⟩,f21:=⟨ "slices.heapSortCmpFunc[bitcast/api.Edge]",
   of_decide_eq_true (by kernel_rfl),func194.trans (by kernel_rfl)⟩,f22:=⟨ "slices.breakPatternsCmpFunc[bitcast/api.Edge]",of_decide_eq_true (by kernel_rfl),func195.trans (by kernel_rfl)⟩,
   f23:=⟨ "slices.choosePivotCmpFunc[bitcast/api.Edge]",of_decide_eq_true (by kernel_rfl),func196.trans (by kernel_rfl)⟩,f24:=⟨ "slices.reverseRangeCmpFunc[bitcast/api.Edge]",
   of_decide_eq_true (by kernel_rfl),func197.trans (by kernel_rfl)⟩,f25:=⟨ "slices.partialInsertionSortCmpFunc[bitcast/api.Edge]",of_decide_eq_true (by kernel_rfl),
   func198.trans (by kernel_rfl)⟩,f26:=⟨ "slices.partitionEqualCmpFunc[bitcast/api.Edge]",of_decide_eq_true (by kernel_rfl),func199.trans (by kernel_rfl)⟩,
   f27:=⟨ "slices.partitionCmpFunc[bitcast/api.Edge]",of_decide_eq_true (by kernel_rfl),func200.trans (by kernel_rfl)⟩,f28:=func183.trans (by kernel_rfl),
   f29:=func184.trans (by kernel_rfl),f46:=⟨ "slices.siftDownCmpFunc[bitcast/api.Edge]",of_decide_eq_true (by kernel_rfl),func221.trans (by kernel_rfl)⟩,
   f47:=func214.trans (by kernel_rfl),f48:=func215.trans (by kernel_rfl),f49:=⟨ "slices.medianAdjacentCmpFunc[bitcast/api.Edge]",of_decide_eq_true (by kernel_rfl),
   func222.trans (by kernel_rfl)⟩,f50:=⟨ "slices.medianCmpFunc[bitcast/api.Edge]",of_decide_eq_true (by kernel_rfl),func223.trans (by kernel_rfl)⟩,
   f57:=⟨ "slices.order2CmpFunc[bitcast/api.Edge]",of_decide_eq_true (by kernel_rfl),func240.trans (by kernel_rfl)⟩,t0:=underlying0,a0:=isAgg0,z0:=sizeOf0,
   v0:=zeroValue0,t3:=underlying3,a3:=isAgg3,z3:=sizeOf3,v3:=zeroValue3,t4:=underlying4,a4:=isAgg4,z4:=sizeOf4,v4:=zeroValue4,
   t5:=underlying5,a5:=isAgg5,z5:=sizeOf5,v5:=zeroValue5,t9:=underlying9,a9:=isAgg9,z9:=sizeOf9,v9:=zeroValue9,t22:=underlying42,
   a22:=isAgg42,z22:=sizeOf42,v22:=zeroValue42,t25:=underlying168,a25:=isAgg168,z25:=sizeOf168,v25:=zeroValue168,t39:=underlying207,
   a39:=isAgg207,z39:=sizeOf207,v39:=zeroValue207,t45:=underlying227,a45:=isAgg227,z45:=sizeOf227,v45:=zeroValue227,t46:=underlying228,
   a46:=isAgg228,z46:=sizeOf228,v46:=zeroValue228,t50:=underlying121,a50:=isAgg121,z50:=sizeOf121,v50:=zeroValue121,t53:=underlying234,
   a53:=isAgg234,z53:=sizeOf234,v53:=zeroValue234,t55:=underlying236,a55:=isAgg236,z55:=sizeOf236,v55:=zeroValue236,t66:=underlying258,
   a66:=isAgg258,z66:=sizeOf258,v66:=zeroValue258,t70:=underlying262,a70:=isAgg262,z70:=sizeOf262,v70:=zeroValue262,t76:=underlying281,
   a76:=isAgg281,z76:=sizeOf281,v76:=zeroValue281,t77:=underlying282,a77:=isAgg282,z77:=sizeOf282,v77:=zeroValue282}
def sp(x:cF):cR:=[.int .i64 x.Router,.int .i64 x.aP]
def QM(I:aZ)(x:cF)(vs:cR):bJ I (eu.enc x) vs↔vs=sp x:=by
 show bJ I [.int .i64 x.Router,.int .i64 x.aP] vs↔vs=_;simp only[bJ,aS];constructor
 .rintro⟨_,_,rfl,rfl,⟨_,_,rfl,rfl,rfl⟩⟩;rfl
 .rintro rfl;exact⟨_,_,rfl,rfl,⟨_,_,rfl,rfl,rfl⟩⟩
def QN(I:aZ)(β:Nat->Value)(x:cF):br I β (eu.enc x) (sp x):=by
 show br I β [.int .i64 x.Router,.int .i64 x.aP] _;simp only[br,au,aS];exact⟨_,_,rfl,rfl,⟨_,_,rfl,rfl,rfl⟩⟩
def QO(x:cF):∀v∈sp x,v.oneCell'=true:=by
 intro v a;simp only[sp,List.mem_cons,List.not_mem_nil,or_false]at a;rcases a with rfl|rfl<;>rfl
def QS(a b:cF):xY a b=some (dQ [λx:cF=>x.aP] a b):=by
 unfold xY;simp only[vR];unfold qu dQ;simp only[aa,dQ]
def Nb:sS prog 102 103 sp 2 (dQ [λx:cF=>x.aP]):=λbK b aM a c f d e=>
 AnyQ.slices_SortFunc aud 2 isAgg166 sizeOf166 sp (λ_=>rfl) QO _ (vO _) 103 #[] bK b aM a c (enters_of func103 (by kernel_rfl) rfl)
  (yL QN (λx g=>Iu (QS x g)) bK b a.size c) f d e
def LY{d T:Nat}{a ys:u6}(h:hK (dQ [λx:cF=>x.aP]) a=some ys):cp prog 102 [(d,.slice T 2 (af eu a) 0 false)] [.own d,.fn 103 []] (λr b=>r=.bP []/\b=[(d,.slice T 2 (af eu ys) 0 false)]):=
 yW QM (by decide) (λ_=>rfl) (λ_=>rfl) (oa _) Nb (λe aM c f=>AnyF.slices_SortFunc_none aud e aM c f) h
end
end Go.Proofs.YteghoodgfjhjkaaGreat
