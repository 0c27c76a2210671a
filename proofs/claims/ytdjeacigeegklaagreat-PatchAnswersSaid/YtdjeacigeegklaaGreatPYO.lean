/- Plain: what a run in ahT mode comes to. No condition but bO bx stand in each. -/
import Derived.Test.YtdjeacigeegklaaGreatPYN
namespace Go.Proofs.YtdjeacigeegklaaGreat
set_option linter.all false
open Go
def afK(r:Int)(p:aH)(a:az):bW:=bW.mk r (aH.mk p.Mode p.bQ p.Set p.Length p.TTL p.cI p.cK p.dU (adz a) p.cD)
def mq(e:aF)(r:Int)(p:aH):List bW:=(e.List.filter (eW r p)).map (afK r p)
variable {p:aH}{r:Int}
theorem ai3{e:aF}(hE:Ve e)(i:Nat):tbi (ni e r p).Local i=true↔∃a∈e.List,eW r p a=true∧a.Bit=i:=by
 have key:∀(l:List az) (acc:Int),(∀a∈l,0≤a.Bit∧a.Bit<64)→(tbi (l.foldl orA acc) i=true↔tbi acc i=true∨∃a∈l,a.Bit=i):=by
  intro l
  induction l with
  |nil=>intro acc _;simp
  |cons a l ih=>
   intro acc h
   have hb:=h a (by simp)
   rw[List.foldl_cons,ih _ λx hx=>h x (by simp[hx])]
   unfold orA adz
   rw[tbo,ue a.Bit.toNat i (by omega),Bool.or_eq_true,decide_eq_true_eq]
   constructor
   ·rintro((h|h)|⟨x,hx,h⟩)
    ·exact .inl h
    ·exact .inr ⟨a,by simp,by omega⟩
    ·exact .inr ⟨x,by simp[hx],h⟩
   ·rintro(h|⟨x,hx,h⟩)
    ·exact .inl (.inl h)
    ·rcases List.mem_cons.1 hx with rfl|hx
     ·exact .inl (.inr (by omega))
     ·exact .inr ⟨x,hx,h⟩
 show tbi ((e.List.filter (eW r p)).foldl orA 0) i=true↔_
 rw[key _ 0 λa ha=>hE.bit (List.mem_filter.1 ha).1,qA]
 simp only[Bool.false_eq_true,false_or,List.mem_filter,and_assoc]
variable {a:az}
theorem ai4{e:aF}(hE:Ve e)(ha:a∈e.List):tbi (ni e r p).Local a.Bit.toNat=eW r p a:=by
 have hb:=hE.bit ha
 rw[Bool.eq_iff_iff,ai3 hE]
 constructor
 ·rintro⟨b,hb2,h1,h2⟩
  have:=hE.agL hb2 ha (by omega)
  subst this;exact h1
 ·intro h;exact⟨a,ha,h,by omega⟩
theorem af8(hp:nW p=true){b:Int}(h0:0≤b)(h1:b<64)(hb:tbi p.Bits b.toNat=true):nq p b=some (aH.mk p.Mode p.bQ p.Set p.Length p.TTL p.cI p.cK p.dU (wN b.toNat) p.cD):=by
 unfold nq
 have e1:¬b<0:=by omega
 have e2:¬63<b:=by omega
 simp only[jn,mR,hp,aN,Bool.not_true,cond_false,decide_eq_false e1,decide_eq_false e2,decide_eq_true h0,chk,cond_true,ahN p.Bits h0 h1,hb,if_true,za h0 h1]
 rfl
theorem apU{e:aF}(h:eW r p a=true):a.br=r∧tbi p.Bits a.Bit.toNat=true∧a.Kind=3:=by
 simp only[eW,lZ,Bool.and_eq_true,decide_eq_true_eq]at h
 exact⟨h.1.1,h.1.2,h.2⟩
theorem alm{β:Type}{e:aF}(hE:Ve e)(hp:nW p=true){D:List bW}(hD:D.length≤900000){K:List bW→Option β}:
  bJ e.List 0 (λ(j2:Int) (e2:az) (Z2:(List bW)→Option β) (m_4:(List bW))=>jn (λ(m_5:(List bW))=>Z2 m_5) λJ2=>chk (decide (0≤e2.Bit))<|bif decide (aU .and .u64 (Int.fdiv (ni e r p).Local (2 ^ min e2.Bit.toNat 64)) (1:Int)=(1:Int))then bnd (nq p e2.Bit) λ(bA:aH)=>bnd (dx m_4 ([(bW.mk r bA)]:List bW)) λ(l_1:List bW)=>J2 l_1 else J2 m_4) K D=K (D++mq e r p):=by
 have hl:=hE.small
 refine jM (L:=e.List) (λq m=>m=D++(q.filter (eW r p)).map (afK r p)) (λq l=>K (D++mq e r p)) (λs hs=>by rw[hs];rfl) (λq x rest s Z h hi hZ=>?_) e.List [] D rfl (by simp)
 subst hi
 have hx:x∈e.List:=by rw[←h];simp
 obtain⟨b0,b1⟩:=hE.bit hx
 have hql:q.length≤64:=by
  have:e.List.length=q.length+(rest.length+1):=by rw[←h];simp
  omega
 have hfl:(q.filter (eW r p)).length≤64:=Nat.le_trans (List.length_filter_le _ _) hql
 simp only[jn]
 rw[decide_eq_true b0,ahN _ b0 b1,ai4 hE hx]
 simp only[chk,cond_true]
 cases hc:eW r p x
 ·simp only[Bool.false_eq_true,if_false]
  refine hZ _ ?_
  simp[List.filter_append,List.filter_cons,hc]
 ·obtain⟨_,h2,_⟩:=apU (e:=e) hc
  simp only[if_true,decide_true,cond_true]
  rw[af8 hp b0 b1 h2,aN,lW (by simp;omega),aN]
  refine hZ _ ?_
  simp[List.filter_append,List.filter_cons,hc,afK,adz]
theorem agN(f:Int→List Int)(b:Int):∀(n:Nat) (x:Int) (out:List Int),(rtF f b n x out).length≤out.length+n
 |0,_,_=>by simp[rtF]
 |n+1,x,out=>by
  rw[rtF]
  split
  ·omega
  ·split
   ·simp
   ·rename_i y _ _
    have:=agN f b n y (out++[y])
    simp at this;omega
end Go.Proofs.YtdjeacigeegklaaGreat
