/- Calls jH answer is one of many. No condition but aX aH stand in each. -/
import Derived.Test.YtmnbolcmepihlaaC9
namespace Go.Proofs.Ytmnbolcmepihlaa
set_option linter.all false
open Go
variable {Post:AV→Sto→Prop}{env:Env}{σ:Sto}
theorem iP.mono{G:Gl}{fn:Func}{Post':AV→Sto→Prop}{e:Exit}(h:iP G fn Post e env σ)(hp:∀a s,Post a s→Post' a s):iP G fn Post' e env σ:=by
 obtain⟨bk,σ2,hw,hr⟩:=h
 refine⟨bk,σ2,hw,?_⟩
 cases e with
 |normal=>obtain⟨fz,x,r,σ',h1,h2,h3,h4⟩:=hr;exact⟨fz,x,r,σ',h1,h2,h3,hp _ _ h4⟩
 |ret=>obtain⟨fz,x,r,σ',h1,h2,h3,h4⟩:=hr;exact⟨fz,x,r,σ',h1,h2,h3,hp _ _ h4⟩
 |_=>exact hr
variable {N:Nat}{P:Program}{avs:List AV}{f:FuncId}
theorem D.aaO{ids:List Nat}{σc:Sto}{o:Oper}{c:Call}{ps0:List AV}(news:List Nat)(ho:o.op=.call c)(ha:nk env c=some (f,ps0))(hs:iY σc.ids σ ps0=some avs)(hat:σ.at σc.ids=some σc)
  (b1:news.all (λd=>!ids.contains d&&(σ.get d).isNone)=true) (b2:(σ.minus σc.ids).clean news.contains=true) (hok:∀r σ2,Post r σ2→r.refs (λd=>!(σc.ids++news).contains d)=false∧σ2.clean (λd=>!(σc.ids++news).contains d)=true) (pf:bL P f σc avs Post) (hc:aU P f) :
  dV ⟨P,N,ids⟩ o env.ev σ (σc.ids++news) news (λr σ'=>∃σ2,Post r σ2∧σ'=σ2++σ.minus σc.ids):=by
 obtain⟨fo,args,k,cap,ps,rfl,hf,hp,rfl⟩:=mI ha
 exact Z.aaC (G:=⟨P,N,ids⟩) (σ:=σ) news ho hf hc.h pf hp (iZ hs) (Sto.iJ hat).1 b1 b2 hok
def zZ{P:Program}(tb:Tb)(ids:List Nat)(ops:Array Oper)(n:Nat)(ms:List Mv)(hs:List (Nat×Hint P))(env:Env)(σ:Sto):Option (Env×Sto×List Obs):=match rQ ids ms env σ with
 |none=>none
 |some (e0,s0)=>lM tb ids ops ⟨false,[],[]⟩ ((List.range n).map λi=>(i,hintOf hs i)) [] e0 s0
def afd{P:Program}(tb:Tb)(ids:List Nat)(ops:Array Oper)(n:Nat)(ms:List Mv)(hs:List (Nat×Hint P))(env:Env)(σ:Sto):Option (FuncId×List AV×List Obs):=match zZ tb ids ops n ms hs env σ with
 |none=>none
 |some (e1,s1,obs)=>match ops[n]? with
  |none=>none
  |some o=>match o.guard with
   |some _=>none
   |none=>match o.op with
    |.call c=>(match nk e1 c with
     |none=>none
     |some (f,ps)=>match iY [] s1 ps with
      |none=>none
      |some avs=>some (f,avs,obs))
    |_=>none
def afe{P:Program}(tb:Tb)(ids:List Nat)(ops:Array Oper)(n:Nat)(l2:List Nat)(ms:List Mv)(hs hs2:List (Nat×Hint P))(env:Env)(σ:Sto)(av:AV)(ks ds:List Nat):Option (Env×Sto×List Obs):=match zZ tb ids ops n ms hs env σ with
 |none=>none
 |some (e1,s1,_)=>match ops[n]? with
  |none=>none
  |some o=>match lM tb ids ops ⟨false,[],[]⟩ (l2.map λi=>(i,hintOf hs2 i)) [] (e1.put o.dst av) s1 with
   |none=>none
   |some (e2,s2,obs)=>match qo [] ds s2 e2 ks with
    |none=>none
    |some e3=>match s2.at ds with
     |none=>none
     |some s3=>some (e3,s3,obs)
theorem A.RY{ids:List Nat}{tb:Tb}{Q:Exit→Env→Sto→Prop}{y:Code}(W:Wld P tb){id:Nat}{ops:Array Oper}(n:Nat)(l2:List Nat)(ms:List Mv)(hs:List (Nat×Hint P))(pf:bL P f [] avs Post)(hc:aU P f)
  (hl:List.range ops.size=List.range n++n::l2) (hd:mZ N ops=true) (h:afd tb ids ops n ms hs env σ=some (f,avs,(List.range n).map λi=>(hintOf hs i).exp)) (hok:∀r σ2,Post r σ2→r.refs (λd=>!([]:List Nat).contains d)=false∧σ2=[])
  (k:∀av σ2,Post av σ2→∃(hs2:List (Nat×Hint P)) (bk:Env) (σ3:Sto),afe tb ids ops n l2 ms hs hs2 env σ av (jL bk) σ3.ids=some (bk,σ3,l2.map λi=>(hintOf hs2 i).exp)∧ai ⟨P,N,ids⟩ y Q bk σ3):ai ⟨P,N,ids⟩ (.seq (.region id ops false) y) Q env σ:=by
 simp only[afd]at h
 split at h
 ·cases h
 ·rename_i e1 s1 obs hx
  split at h
  ·cases h
  ·rename_i o ho
   split at h
   ·cases h
   ·rename_i hg
    split at h
    ·rename_i c hop
     split at h
     ·cases h
     ·rename_i f' ps ha
      split at h
      ·cases h
      ·rename_i vz hse
       simp only[Option.some.injEq,Prod.mk.injEq]at h
       obtain⟨rfl,rfl,hob⟩:=h
       have hx0:=hx
       simp only[zZ]at hx
       split at hx
       ·cases hx
       ·rename_i e0 s0 hm
        refine A.weak (nJ hm) (A.seq (A.RX W n l2 hs e1 s1 hl hd (by rw[hx,hob]) ho hg (D.aaO (σc:=[]) [] hop ha hse rfl rfl (Sto.eO _) (λr σ2 hp=>?_) pf hc) (Env.eO _) rfl ?_))
        ·obtain⟨g1,g2⟩:=hok r σ2 hp
         exact⟨g1,by rw[g2];rfl⟩
        ·rintro av σ' ⟨σ2,hp,rfl⟩
         obtain⟨g1,g2⟩:=hok av σ2 hp
         subst g2
         obtain⟨hs2,bk,σ3,p1,p2⟩:=k av [] hp
         rw[show([]:Sto)++s1.minus (Sto.ids [])=s1 from pP s1]
         simp only[afe,hx0,ho]at p1
         split at p1
         ·cases p1
         ·rename_i e2 s2 obs2 hr2
          split at p1
          ·cases p1
          ·rename_i e3 hk3
           split at p1
           ·cases p1
           ·rename_i s3 hs3
            simp only[Option.some.injEq,Prod.mk.injEq]at p1
            obtain⟨rfl,rfl,ho2⟩:=p1
            exact⟨hs2,e2,s2,by rw[hr2,ho2],A.weak (aN.of (oE hk3) (Sto.iJ hs3).1) p2⟩
    ·cases h
noncomputable def vM{α β:Type}(P:α→Prop)(K:α→Option β):Option β:=@dite _ (∃r,(∃a,P a)∧∀a,P a→K a=some r) (Classical.propDecidable _) (λh=>some (Classical.choose h)) (λ_=>none)
variable {α β:Type}{K:α→Option β}{r:β}
theorem yN{P:α→Prop}(h:vM P K=some r):∀a,P a→K a=some r:=by
 unfold vM at h
 split at h
 ·rename_i hx
  have:=(Classical.choose_spec hx).2
  rw[Option.some.inj h]at this
  exact this
 ·cases h
theorem acG{P:α→Prop}(h1:∃a,P a)(h:∀a,P a→K a=some r):vM P K=some r:=by
 unfold vM
 have hx:∃r,(∃a,P a)∧∀a,P a→K a=some r:=⟨r,h1,h⟩
 rw[dif_pos hx]
 obtain⟨a,ha⟩:=h1
 have:=(Classical.choose_spec hx).2 a ha
 rw[h a ha]at this
 exact this.symm
end Go.Proofs.Ytmnbolcmepihlaa
