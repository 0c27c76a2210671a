/- Plain: abl in acy mode: validity, what a bW makes of one. No condition but bL aY stand in each. -/
import Derived.Test.YtdjeacigeegklaaPYI
import Derived.Test.YtdjeacigeegklaaPN
import Derived.Test.YtdjeacigeegklaaDA
namespace Go.Proofs.Ytdjeacigeegklaa
set_option linter.all false
open Go
/-! ## valid abl -/
def inN (n m : Int) : Bool := decide (0 ≤ n) && decide (n ≤ m)
def sk (n : Int) : Int := if n = 8 then 255 else if n = 16 then 65535 else if n = 32 then 4294967295 else 18446744073709551615
def vU (b n : Int) : Bool := jD n && decide (bH .andNot .u64 b (sk n) = 0)
def vk (p : aS) : Bool := (decide (1 ≤ p.Mode) && decide (p.Mode ≤ 3)) && inN p.bQ 7 && inN p.Set 31 && vU p.Bits p.Length && inN p.TTL 63 && inN p.cv 1023 && inN p.cw 256 && inN p.dx 7 && decide ((p.cz.size : Int) ≤ 64)
theorem tW {n : Int} (h : jD n = true) : n = 8 ∨ n = 16 ∨ n = 32 ∨ n = 64 := by simpa [jD] using h
theorem akU {n : Int} (h : jD n = true) : nx n = some (sk n) := by
 rcases tW h with rfl | rfl | rfl | rfl <;> kernel_rfl
theorem afV (b n : Int) : kT b n = some (vU b n) := by
 unfold kT vU
 show (bnd (some (jD n)) _ : Option Bool) = _
 rw [bK]
 cases h : jD n
 ·rfl
 ·simp only [cond_true, akU h, bK, Bool.true_and]
theorem aot (a b c d e f g h i j : Bool) : (bif a then (bif b then (bif c then (bif d then (bif e then (bif f then (bif g then (bif h then (bif i then some j else some false) else some false) else some false) else some false) else some false) else some false) else some false) else some false) else some false) = some ((a && b) && c && d && e && f && g && h && i && j) := by
 cases a <;> cases b <;> cases c <;> cases d <;> cases e <;> cases f <;> cases g <;> cases h <;> cases i <;> rfl
theorem rI (p : aS) : ig p = some (vk p) := by
 unfold ig iq vk
 simp only [bK, afV]
 exact aot _ _ _ _ _ _ _ _ _ _
theorem aaK {n : Int} (h : jD n = true) (i : Nat) : tbi (sk n) i = decide ((i : Int) < n) := by
 by_cases hi : i < 64
 ·have hc : ∀ m : Nat, m ≤ 64 → tbi (((2 ^ m - 1 : Nat)) : Int) i = decide (i < m) := fun m hm => by
   have hb : B64 ((2 ^ m - 1 : Nat) : Int) := by
    have := Nat.pow_le_pow_right (n := 2) (by decide) hm
    have h0 : 0 < 2 ^ m := Nat.pow_pos (by decide)
    unfold B64; omega
   rw [abj hb, Int.toNat_natCast, Nat.testBit_two_pow_sub_one]
  rcases tW h with rfl | rfl | rfl | rfl
  ·rw [show sk 8 = ((2 ^ 8 - 1 : Nat) : Int) from rfl, hc 8 (by decide)]; exact decide_eq_decide.2 (by omega)
  ·rw [show sk 16 = ((2 ^ 16 - 1 : Nat) : Int) from rfl, hc 16 (by decide)]; exact decide_eq_decide.2 (by omega)
  ·rw [show sk 32 = ((2 ^ 32 - 1 : Nat) : Int) from rfl, hc 32 (by decide)]; exact decide_eq_decide.2 (by omega)
  ·rw [show sk 64 = ((2 ^ 64 - 1 : Nat) : Int) from rfl, hc 64 (by decide)]; exact decide_eq_decide.2 (by omega)
 ·rw [aco _ (by omega)]
  have := tW h
  rw [decide_eq_false (by omega)]
theorem nV {b n : Int} : vU b n = true ↔ jD n = true ∧ ∀ i : Nat, tbi b i = true → (i : Int) < n := by
 unfold vU
 rw [Bool.and_eq_true, decide_eq_true_eq]
 constructor
 ·rintro ⟨h, h0⟩
  refine ⟨h, fun i hi => ?_⟩
  have := tbn b (sk n) i
  rw [h0, jI, hi, aaK h] at this
  simpa using this
 ·rintro ⟨h, h1⟩
  refine ⟨h, s5 tQ s6 fun i _ => ?_⟩
  rw [tbn, jI, aaK h]
  cases hb : tbi b i
  ·rfl
  ·simp [h1 i hb]
/-! ## what a bW makes of a aou -/
def vl (a : ah) : Int := p9 a.Bit.toNat
def kX (r : Int) (p : aS) (a : ah) : Bool := decide (a.aR = r) && tbi p.Bits a.Bit.toNat
def dU (e : aM) (r : Int) (p : aS) : Int := bH .andNot .u64 p.Bits (nH e r)
def goP (e : aM) (r : Int) (p : aS) : aS := aS.mk p.Mode p.bQ p.Set p.Length (w64 (p.TTL - 1)) p.cv p.cw p.dx (dU e r p) p.cz
def fS (e : aM) (r : Int) (p : aS) (a : ah) : gU := gU.mk a.To (nc.mk (if a.Kind = 2 then [a.To] else []) (goP e r p))
def orA (s : Int) (a : ah) : Int := bH .or .u64 s (vl a)
def eA (e : aM) (r : Int) (p : aS) (a : ah) : Bool := kX r p a && !decide (a.Kind = 3) && !decide (p.TTL = 0) && !decide (dU e r p = 0)
def fL (r : Int) (p : aS) (a : ah) : Bool := kX r p a && decide (a.Kind = 3)
def gn (r : Int) (p : aS) (a : ah) : Bool := kX r p a && !decide (a.Kind = 3) && decide (p.TTL = 0)
def cV (e : aM) (r : Int) (p : aS) : List ah := e.List.filter (eA e r p)
def lJ (e : aM) (r : Int) (p : aS) : fI := fI.mk ((e.List.filter (fL r p)).foldl orA 0) ((e.List.filter (gn r p)).foldl orA 0) ((cV e r p).map (fS e r p))
theorem akV {x b : Int} (h0 : 0 ≤ b) (h : b < 64) : decide (bH .and .u64 x (p9 b.toNat) = 0) = !tbi x b.toNat := by
 have hk : b.toNat < 64 := by omega
 by_cases hz : bH .and .u64 x (p9 b.toNat) = 0
 ·rw [decide_eq_true hz]
  have := tba x (p9 b.toNat) b.toNat
  rw [hz, jI, nU _ _ hk, decide_eq_true rfl, Bool.and_true] at this
  rw [← this]; rfl
 ·rw [decide_eq_false hz]
  obtain ⟨i, _, hi⟩ := akM acn hz
  rw [tba, nU _ _ hk, Bool.and_eq_true, decide_eq_true_eq] at hi
  rw [← hi.2, hi.1]; rfl
theorem yb {e : aM} (hv : Ve e) (r : Int) (p : aS) : gb e r p = some (lJ e r p, (cV e r p).map fun a => aX.mk a (fS e r p a)) := by
 have hl := hv.small
 unfold gb lJ cV
 rw [akP e r (by omega), bK]
 refine nF (L := e.List) (fun q (sg : List aX × Int × Int × List gU) => sg = ((q.filter (eA e r p)).map (fun a => aX.mk a (fS e r p a)), (q.filter (fL r p)).foldl orA 0, (q.filter (gn r p)).foldl orA 0, (q.filter (eA e r p)).map (fS e r p))) (fun q l => some (fI.mk ((e.List.filter (fL r p)).foldl orA 0) ((e.List.filter (gn r p)).foldl orA 0) ((e.List.filter (eA e r p)).map (fS e r p)), (e.List.filter (eA e r p)).map fun a => aX.mk a (fS e r p a))) (fun s hs => by rw [hs]) (fun q x rest s Z h hi hZ => ?_) e.List [] _ rfl rfl
 subst hi
 have hx : x ∈ e.List := by rw [← h]; simp
 obtain ⟨b0, b1⟩ := hv.bit hx
 have hql : q.length ≤ 64 := by
  have : e.List.length = q.length + (rest.length + 1) := by rw [← h]; simp
  omega
 have hfl : ∀ f : ah → Bool, (q.filter f).length ≤ 64 := fun f => Nat.le_trans (List.length_filter_le _ _) hql
 have pass : (∀ f, f = eA e r p ∨ f = fL r p ∨ f = gn r p → f x = false) → Z ((q.filter (eA e r p)).map (fun a => aX.mk a (fS e r p a)), (q.filter (fL r p)).foldl orA 0, (q.filter (gn r p)).foldl orA 0, (q.filter (eA e r p)).map (fS e r p)) = some (fI.mk ((e.List.filter (fL r p)).foldl orA 0) ((e.List.filter (gn r p)).foldl orA 0) ((e.List.filter (eA e r p)).map (fS e r p)), (e.List.filter (eA e r p)).map fun a => aX.mk a (fS e r p a)) := fun hf => hZ _ (by
  simp only [List.filter_append, List.filter_cons, List.filter_nil, hf _ (.inl rfl), hf _ (.inr (.inl rfl)), hf _ (.inr (.inr rfl)), Bool.false_eq_true, if_false, List.append_nil])
 simp only [jn]
 rw [decide_eq_true b0, vh b0 b1, akV b0 b1]
 simp only [chk, cond_true]
 have eh : (!decide (x.aR = r) || !tbi p.Bits x.Bit.toNat) = !kX r p x := by unfold kX; cases decide (x.aR = r) <;> rfl
 rw [eh]
 cases hh : kX r p x
 ·exact pass fun f hf => by rcases hf with rfl | rfl | rfl <;> simp [eA, fL, gn, hh]
 simp only [Bool.not_true, cond_false]
 by_cases h3 : x.Kind = 3
 ·rw [decide_eq_true h3, cond_true]
  refine hZ _ ?_
  have e1 : eA e r p x = false := by simp [eA, h3]
  have e2 : fL r p x = true := by simp [fL, hh, h3]
  have e3 : gn r p x = false := by simp [gn, h3]
  simp only [List.filter_append, List.filter_cons, List.filter_nil, e1, e2, e3, Bool.false_eq_true, if_false, if_true, List.append_nil, List.foldl_append, List.foldl_cons, List.foldl_nil]
  rfl
 rw [decide_eq_false h3, cond_false]
 by_cases h4 : p.TTL = 0
 ·rw [decide_eq_true h4, cond_true]
  refine hZ _ ?_
  have e1 : eA e r p x = false := by simp [eA, h4]
  have e2 : fL r p x = false := by simp [fL, h3]
  have e3 : gn r p x = true := by simp [gn, hh, h3, h4]
  simp only [List.filter_append, List.filter_cons, List.filter_nil, e1, e2, e3, Bool.false_eq_true, if_false, if_true, List.append_nil, List.foldl_append, List.foldl_cons, List.foldl_nil]
  rfl
 rw [decide_eq_false h4, cond_false]
 by_cases h5 : dU e r p = 0
 ·have h5' : bH .andNot .u64 p.Bits (nH e r) = 0 := h5
  rw [decide_eq_true h5']
  exact pass fun f hf => by rcases hf with rfl | rfl | rfl <;> simp [eA, fL, gn, h3, h4, h5]
 ·have h5' : ¬ bH .andNot .u64 p.Bits (nH e r) = 0 := h5
  rw [decide_eq_false h5']
  simp only [Bool.not_false, cond_true]
  have e1 : eA e r p x = true := by simp [eA, hh, h3, h4, h5]
  have e2 : fL r p x = false := by simp [fL, h3]
  have e3 : gn r p x = false := by simp [gn, h4]
  have fin : ∀ rt : List Int, rt = (if x.Kind = 2 then [x.To] else []) → (bnd (eR ((q.filter (eA e r p)).map (fS e r p)) ([(gU.mk x.To (nc.mk rt (aS.mk p.Mode p.bQ p.Set p.Length (w64 (p.TTL - (1:Int))) p.cv p.cw p.dx (bH .andNot .u64 p.Bits (nH e r)) p.cz)))] : List gU)) fun (l_1 : List gU) => bnd (eR ((q.filter (eA e r p)).map (fun a => aX.mk a (fS e r p a))) ([(aX.mk x (gU.mk x.To (nc.mk rt (aS.mk p.Mode p.bQ p.Set p.Length (w64 (p.TTL - (1:Int))) p.cv p.cw p.dx (bH .andNot .u64 p.Bits (nH e r)) p.cz))))] : List aX)) fun (l_2 : List aX) => Z (l_2, (q.filter (fL r p)).foldl orA 0, (q.filter (gn r p)).foldl orA 0, l_1)) = some (fI.mk ((e.List.filter (fL r p)).foldl orA 0) ((e.List.filter (gn r p)).foldl orA 0) ((e.List.filter (eA e r p)).map (fS e r p)), (e.List.filter (eA e r p)).map fun a => aX.mk a (fS e r p a)) := fun rt hrt => by
   have := hfl (eA e r p)
   rw [p8 (by simp; omega), bK, p8 (by simp; omega), bK]
   refine hZ _ ?_
   simp only [List.filter_append, List.filter_cons, List.filter_nil, e1, e2, e3, Bool.false_eq_true, if_false, if_true, List.append_nil, List.map_append, List.map_cons, List.map_nil, hrt]
   rfl
  by_cases h2 : x.Kind = 2
  ·rw [decide_eq_true h2, cond_true]; exact fin _ (by rw [if_pos h2])
  ·rw [decide_eq_false h2, cond_false]; exact fin _ (by rw [if_neg h2])
end Go.Proofs.Ytdjeacigeegklaa
