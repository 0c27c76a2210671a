/- Plain: the law xz is true. No condition. -/
import Derived.Test.YtdjeacigeegklaaPYO
import Derived.Test.YtdjeacigeegklaaDL1
namespace Go.Proofs.Ytdjeacigeegklaa
set_option linter.all false
open Go
def gv (a b : Int) : ah := ah.mk 1 a 2 b
def iU (b : Int) : ah := ah.mk 6 b 3 b
def eN (a b : Int) : aM := aM.mk 8 [gv a b, iU b]
def pkR (t b : Int) : aS := aS.mk 2 0 0 8 t 0 0 0 b ⟨#[]⟩
theorem akX {a b : Int} (ha : 1 ≤ a ∧ a ≤ 99) (hb : 1 ≤ b ∧ b ≤ 99) (hne : a ≠ b) : Ve (eN a b) := by
 refine ⟨.inl rfl, fun x hx => ?_, fun x hx => ?_, fun x hx => ?_, ?_, ?_⟩
 ·simp only [eN, List.mem_cons, List.not_mem_nil, or_false] at hx
  rcases hx with rfl | rfl
  ·exact ⟨by simp [gv], by simp [gv, eN], ha, hb⟩
  ·exact ⟨by simp [iU], by simp [iU, eN], hb, hb⟩
 ·simp only [eN, List.mem_cons, List.not_mem_nil, or_false] at hx
  rcases hx with rfl | rfl <;> simp [gv, iU]
 ·simp only [eN, List.mem_cons, List.not_mem_nil, or_false] at hx
  rcases hx with rfl | rfl
  ·simp [gv, Ne.symm hne]
  ·simp [iU]
 ·simp [eN, gv, iU]
 ·simp [eN, gv, iU, tgA]
theorem aoz {a b : Int} (hv : Ve (eN a b)) (hne : a ≠ b) : nH (eN a b) a = 2 := by
 unfold nH; rw [if_pos (rE.2 hv)]
 show oH a (oH a 0 (gv a b)) (iU b) = 2
 unfold oH gv iU
 simp only [if_true, if_neg (Ne.symm hne)]
 kernel_rfl
theorem sJ (t : List Int) : gM t = some true := by
 unfold gM
 refine Ok.eq (Ok.bnd (acm t) fun s hs => Ok.bnd (rF hs (by omega)) fun p hp => ?_)
 obtain ⟨g, t1⟩ := p
 obtain ⟨hg, ht⟩ := hp
 have hv : Vt g := hg.v
 have hnr := hv.nr
 have hgn : 1 ≤ g.aC.length := hg.n.1
 refine pF (g := g) ht (by omega) fun q1 r1 hq1 hr1 af1 => pF (g := g) hq1 (by omega) fun q2 r2 hq2 hr2 aoA => ?_
 generalize r1.ID = a at af1
 generalize r2.ID = b at aoA
 refine Ok.cs (fun _ => by rw [pe]; exact ⟨true, rfl, rfl⟩) fun hne => ?_
 have hne : a ≠ b := by simpa using hne
 have hE := akX (vT hv af1) (vT hv aoA) hne
 have hP : Pk (eN a b) (pkR 1 66) := ⟨by kernel_rfl, rfl, rfl⟩
 have acz : dU (eN a b) a (pkR 1 66) = 64 := by unfold dU; rw [aoz hE hne]; kernel_rfl
 have hh1 : kX a (pkR 1 66) (gv a b) = true := by
  unfold kX; rw [show (gv a b).aR = a from rfl, decide_eq_true rfl, Bool.true_and]
  show tbi 66 1 = true
  kernel_rfl
 have hh2 : ∀ p, kX a p (iU b) = false := fun p => by unfold kX; rw [show (iU b).aR = b from rfl, decide_eq_false (Ne.symm hne)]; rfl
 have hs1 : cV (eN a b) a (pkR 1 66) = [gv a b] := by
  unfold cV
  show List.filter _ [gv a b, iU b] = _
  have e1 : eA (eN a b) a (pkR 1 66) (gv a b) = true := by
   unfold eA; rw [hh1, acz]; rfl
  have e2 : eA (eN a b) a (pkR 1 66) (iU b) = false := by unfold eA; rw [hh2]; rfl
  simp [List.filter_cons, e1, e2]
 have hd1 : oI (eN a b) a (pkR 1 66) = [] := by
  unfold oI
  show (List.filter _ [gv a b, iU b]).map _ = _
  have e1 : fL a (pkR 1 66) (gv a b) = false := by unfold fL; rw [hh1]; rfl
  have e2 : fL a (pkR 1 66) (iU b) = false := by unfold fL; rw [hh2]; rfl
  simp [List.filter_cons, e1, e2]
 have hl1 : mH (eN a b) a (pkR 1 66) = [] := by
  unfold mH
  have : (lJ (eN a b) a (pkR 1 66)).mg = 0 := by
   show ((List.filter (gn a (pkR 1 66)) [gv a b, iU b]).foldl orA 0) = 0
   have e1 : gn a (pkR 1 66) (gv a b) = false := by unfold gn; rw [hh1]; rfl
   have e2 : gn a (pkR 1 66) (iU b) = false := by unfold gn; rw [hh2]; rfl
   simp [List.filter_cons, e1, e2]
  rw [if_pos this]
 have aaP : lW g a (gv a b) = (eX g a b, decide ((0:Int) < ((eX g a b).length : Int))) := by unfold lW; rw [if_pos (show (gv a b).Kind = 2 from rfl)]; rfl
 have hwl := abp (t := g) (r := a) (a := gv a b)
 rw [aaP] at hwl
 have hwl : (eX g a b).length ≤ 30 := hwl
 have hrun : fO (aM.mk (8:Int) ([(ah.mk (1:Int) a (2:Int) b), (ah.mk (6:Int) b (3:Int) b)] : List ah)) g (aS.mk (2:Int) (0:Int) (0:Int) (8:Int) (1:Int) (0:Int) (0:Int) (0:Int) (66:Int) (⟨#[]⟩ : ByteArray)) a = some (kf (eN a b) g 5000 [aB.mk a (pkR 1 66)] [] [] []) := abq hE hv hP af1
 rw [hrun, bK]
 clear hrun
 have tX : kf (eN a b) g 5000 [aB.mk a (pkR 1 66)] [] [] [] = if 2000 < ([] ++ jc (eN a b) g (aB.mk a (pkR 1 66))).length then (eF.mk [] [] [], 11) else kf (eN a b) g 4999 ([] ++ kY (eN a b) g (aB.mk a (pkR 1 66))) ([] ++ oI (eN a b) a (pkR 1 66)) ([] ++ jc (eN a b) g (aB.mk a (pkR 1 66))) ([] ++ pg (eN a b) g (aB.mk a (pkR 1 66))) := rfl
 by_cases hr : (dT g a b).isSome = true
 ·have hpos : 0 < (eX g a b).length := by
   obtain ⟨k, hk⟩ := Option.isSome_iff_exists.1 hr
   obtain ⟨y, r, _, h2⟩ := x8 hk hne
   rw [h2]; simp
  have hok : okA g a (gv a b) = true := by unfold okA; rw [aaP]; exact decide_eq_true (by omega)
  have hC : jc (eN a b) g (aB.mk a (pkR 1 66)) = iI 64 a (eX g a b) := by
   unfold jc iT; simp only [hs1, acz, List.filter_cons, hok, if_true, List.filter_nil, List.flatMap_cons, List.flatMap_nil, List.append_nil, aaP]
  have hend : vm a (eX g a b) = b := by
   have h1 := adp hr
   have : ∀ (l : List Int) (x : Int), (x :: l).getLast? = some (vm x l) := by
    intro l
    induction l with
    | nil => intro x; rfl
    | cons y l ih => intro x; rw [List.getLast?_cons_cons]; exact ih y
   rw [this] at h1
   exact Option.some.inj h1
  have hgo : goP (eN a b) a (pkR 1 66) = pkR 0 64 := by unfold goP; rw [acz]; kernel_rfl
  have hQ : kY (eN a b) g (aB.mk a (pkR 1 66)) = [aB.mk b (pkR 0 64)] := by
   unfold kY lX; simp only [hs1, hgo, List.filter_cons, hok, if_true, List.filter_nil, List.map_cons, List.map_nil, aaP, hend]
  have hL : pg (eN a b) g (aB.mk a (pkR 1 66)) = [] := by
   unfold pg newL; simp only [hl1, hs1, List.filter_cons, hok, List.filter_nil]; simp
  rw [hC, hQ, hL, hd1] at tX
  simp only [List.nil_append, List.append_nil] at tX
  rw [if_neg (by rw [mG]; omega)] at tX
  -- at the end of the way
  have g1 : ∀ p, kX b p (gv a b) = false := fun p => by unfold kX; rw [show (gv a b).aR = a from rfl, decide_eq_false hne]; rfl
  have g2 : kX b (pkR 0 64) (iU b) = true := by
   unfold kX; rw [show (iU b).aR = b from rfl, decide_eq_true rfl, Bool.true_and]
   show tbi 64 6 = true
   kernel_rfl
  have hs2 : cV (eN a b) b (pkR 0 64) = [] := by
   unfold cV
   show List.filter _ [gv a b, iU b] = _
   have e1 : eA (eN a b) b (pkR 0 64) (gv a b) = false := by unfold eA; rw [g1]; rfl
   have e2 : eA (eN a b) b (pkR 0 64) (iU b) = false := by unfold eA; rw [g2]; rfl
   simp [List.filter_cons, e1, e2]
  have hd2 : oI (eN a b) b (pkR 0 64) = [cA.mk b (pkR 0 64)] := by
   unfold oI
   show (List.filter _ [gv a b, iU b]).map _ = _
   have e1 : fL b (pkR 0 64) (gv a b) = false := by unfold fL; rw [g1]; rfl
   have e2 : fL b (pkR 0 64) (iU b) = true := by unfold fL; rw [g2]; rfl
   simp only [List.filter_cons, e1, e2, List.filter_nil]
   rfl
  have hl2 : mH (eN a b) b (pkR 0 64) = [] := by
   unfold mH
   have : (lJ (eN a b) b (pkR 0 64)).mg = 0 := by
    show ((List.filter (gn b (pkR 0 64)) [gv a b, iU b]).foldl orA 0) = 0
    have e1 : gn b (pkR 0 64) (gv a b) = false := by unfold gn; rw [g1]; rfl
    have e2 : gn b (pkR 0 64) (iU b) = false := by unfold gn; rw [g2]; rfl
    simp [List.filter_cons, e1, e2]
   rw [if_pos this]
  have acA : kf (eN a b) g 4999 [aB.mk b (pkR 0 64)] [] (iI 64 a (eX g a b)) [] = (eF.mk [cA.mk b (pkR 0 64)] (iI 64 a (eX g a b)) [], 0) := by
   rw [kf]
   have hC2 : jc (eN a b) g (aB.mk b (pkR 0 64)) = [] := by unfold jc iT; simp [hs2]
   have hQ2 : kY (eN a b) g (aB.mk b (pkR 0 64)) = [] := by unfold kY lX; simp [hs2]
   have hL2 : pg (eN a b) g (aB.mk b (pkR 0 64)) = [] := by unfold pg newL; simp [hs2, hl2]
   rw [hC2, hQ2, hL2, hd2]
   simp only [List.append_nil, List.nil_append]
   rw [if_neg (by rw [mG]; omega)]
   rfl
  rw [tX, acA]
  simp only [decide_true, Bool.not_true, cond_false]
  rw [decide_eq_false (by rw [mG]; omega), cond_false]
  have loop : ∀ (l : List Int) (j : Nat) (x : Int) (K : Int → Option Bool), bY (iI 64 x l) j (fun (j1 : Int) (e1 : bp) (Z1 : Int → Option Bool) (iL : Int) => bif ((!decide (e1.nD = iL)) || (!decide (e1.Bits = (64:Int)))) then some false else Z1 e1.To) K x = K (vm x l) := by
   intro l
   induction l with
   | nil => intro j x K; rfl
   | cons y l ih => intro j x K; simp only [iI, bY, decide_true, Bool.not_true, Bool.or_false, cond_false]; exact ih (j + 1) y K
  refine Eq.subst (motive := fun z => Ok z _) (loop (eX g a b) 0 a _).symm ?_
  rw [hend, decide_eq_true rfl, cond_true]
  show Ok (bnd eU fun x => some x) _
  rw [pe]; exact ⟨true, rfl, rfl⟩
 ·have hz : eX g a b = [] := by
   by_cases hin : jb g = 0 ∧ a ∈ ids g ∧ b ∈ ids g
   ·exact yM b (tO (by simpa using hr)) hne []
   ·exact vg hin
  have hok : okA g a (gv a b) = false := by unfold okA; rw [aaP, hz]; rfl
  have hC : jc (eN a b) g (aB.mk a (pkR 1 66)) = [] := by
   unfold jc iT; simp [hs1, List.filter_cons, hok]
  have hQ : kY (eN a b) g (aB.mk a (pkR 1 66)) = [] := by
   unfold kY lX; simp [hs1, List.filter_cons, hok]
  have hL : pg (eN a b) g (aB.mk a (pkR 1 66)) = [cH.mk a 2] := by
   unfold pg newL; simp only [hl1, hs1, List.filter_cons, hok, List.filter_nil]; rfl
  rw [hC, hQ, hL, hd1] at tX
  have acA : kf (eN a b) g 5000 [aB.mk a (pkR 1 66)] [] [] [] = (eF.mk [] [] [cH.mk a 2], 0) := tX
  rw [acA]
  have e3 : o3 (cH.mk a 2) (cH.mk a 2) = true := by simp [o3]
  show Ok (bif o3 (cH.mk a 2) (cH.mk a 2) then _ else _) _
  rw [e3]
  show Ok (bnd eU fun x => some x) _
  rw [pe]; exact ⟨true, rfl, rfl⟩
end Go.Proofs.Ytdjeacigeegklaa
