/- Plain: what a run in acy mode comes to. No condition but bL aY stand in each. -/
import Derived.Test.YtdjeacigeegklaaPYN
namespace Go.Proofs.Ytdjeacigeegklaa
set_option linter.all false
open Go
noncomputable def lW (t : aa) (r : Int) (a : ah) : List Int × Bool := if a.Kind = 2 then (eX t r a.To, decide ((0:Int) < ((eX t r a.To).length : Int))) else ([a.To], kW t r a.To)
theorem akW {t : aa} (hv : Vt t) (r : Int) (a : ah) : gr t r a = some (lW t r a) := by
 unfold gr lW
 have := hv.nl
 by_cases h : a.Kind = 2
 ·simp only [h, decide_true, cond_true, acj, bK, if_true]
 ·rw [decide_eq_false h, cond_false, afB t r a.To (by omega), bK, if_pos (nk.2 hv), if_neg h, zq]
/-- the crossings of a way -/
def iI (b : Int) : Int → List Int → List bp
 | _, [] => []
 | r, x :: l => bp.mk r x b :: iI b x l
theorem mG (b : Int) : ∀ (r : Int) (l : List Int), (iI b r l).length = l.length
 | _, [] => rfl
 | r, x :: l => by simp [iI, mG b x l]
def vm : Int → List Int → Int
 | r, [] => r
 | _, x :: l => vm x l
noncomputable def okA (t : aa) (r : Int) (a : ah) : Bool := (lW t r a).2
noncomputable def iT (t : aa) (r b : Int) (l : List ah) : List bp := (l.filter (okA t r)).flatMap fun a => iI b r (lW t r a).1
noncomputable def lX (t : aa) (r : Int) (p : aS) (l : List ah) : List aB := (l.filter (okA t r)).map fun a => aB.mk (vm r (lW t r a).1) p
noncomputable def newL (t : aa) (r : Int) (l : List ah) : List cH := (l.filter fun a => !okA t r a).map fun a => cH.mk r (vl a)
def afW (r : Int) (p : aS) (a : ah) : cA := cA.mk r (aS.mk p.Mode p.bQ p.Set p.Length p.TTL p.cv p.cw p.dx (vl a) p.cz)
def oI (e : aM) (r : Int) (p : aS) : List cA := (e.List.filter (fL r p)).map (afW r p)
def mH (e : aM) (r : Int) (p : aS) : List cH := if (lJ e r p).mg = 0 then [] else [cH.mk r (lJ e r p).mg]
noncomputable def jc (e : aM) (t : aa) (v : aB) : List bp := iT t v.bq (dU e v.bq v.bA) (cV e v.bq v.bA)
noncomputable def kY (e : aM) (t : aa) (v : aB) : List aB := lX t v.bq (goP e v.bq v.bA) (cV e v.bq v.bA)
noncomputable def pg (e : aM) (t : aa) (v : aB) : List cH := mH e v.bq v.bA ++ newL t v.bq (cV e v.bq v.bA)
noncomputable def kf (e : aM) (t : aa) : Nat → List aB → List cA → List bp → List cH → eF × Int
 | 0, _, _, _, _ => (eF.mk [] [] [], 11)
 | _ + 1, [], D, C, L => (eF.mk D C L, 0)
 | n + 1, v :: q, D, C, L => if 2000 < (C ++ jc e t v).length then (eF.mk [] [] [], 11) else kf e t n (q ++ kY e t v) (D ++ oI e v.bq v.bA) (C ++ jc e t v) (L ++ pg e t v)
theorem afX {t : aa} {r : Int} {a : ah} (h : okA t r a = true) : 1 ≤ (lW t r a).1.length := by
 unfold okA at h
 unfold lW at *
 by_cases h2 : a.Kind = 2
 ·rw [if_pos h2] at *; simp only [decide_eq_true_eq] at h; simp only; omega
 ·rw [if_neg h2]; simp
theorem abm {t : aa} {r b : Int} {p : aS} (l : List ah) : (lX t r p l).length ≤ (iT t r b l).length := by
 unfold lX iT
 rw [List.length_map, List.length_flatMap]
 have : ∀ m : List ah, (∀ a ∈ m, okA t r a = true) → m.length ≤ (m.map fun a => (iI b r (lW t r a).1).length).sum := by
  intro m
  induction m with
  | nil => intro _; simp
  | cons a m ih =>
   intro h
   have h1 := ih fun x hx => h x (by simp [hx])
   have h2 := afX (h a (by simp))
   simp only [List.length_cons, List.map_cons, List.sum_cons, mG]
   simp only [mG] at h1
   omega
 exact this _ fun a ha => (List.mem_filter.1 ha).2
/-- the measure of a run -/
def runM (q : List aB) (C : List bp) : Nat := q.length + (2000 - C.length)
theorem aaL {e : aM} {t : aa} {v : aB} {q : List aB} {C : List bp} (h : ¬ 2000 < (C ++ jc e t v).length) : runM (q ++ kY e t v) (C ++ jc e t v) < runM (v :: q) C := by
 have := abm (t := t) (r := v.bq) (b := dU e v.bq v.bA) (p := goP e v.bq v.bA) (cV e v.bq v.bA)
 unfold runM kY
 unfold jc at h ⊢
 rw [List.length_append] at h ⊢
 rw [List.length_append, List.length_cons]
 omega
theorem wq {e : aM} {t : aa} : ∀ (n m : Nat) (q : List aB) (D : List cA) (C : List bp) (L : List cH), runM q C < n → runM q C < m → kf e t n q D C L = kf e t m q D C L
 | 0, _, _, _, _, _, h, _ => by omega
 | _, 0, _, _, _, _, _, h => by omega
 | n + 1, m + 1, [], D, C, L, _, _ => rfl
 | n + 1, m + 1, v :: q, D, C, L, h1, h2 => by
  rw [kf, kf]
  split
  ·rfl
  ·rename_i hc
   have := aaL (e := e) (t := t) (q := q) hc
   exact wq n m _ _ _ _ (by omega) (by omega)
/-- what comes true of a run -/
theorem aaM {e : aM} {t : aa} (I : List aB → List cA → List bp → List cH → Prop)
  (hs : ∀ v q D C L, I (v :: q) D C L → ¬ 2000 < (C ++ jc e t v).length → I (q ++ kY e t v) (D ++ oI e v.bq v.bA) (C ++ jc e t v) (L ++ pg e t v)) : ∀ (n : Nat) (q : List aB) (D : List cA) (C : List bp) (L : List cH), I q D C L →
  kf e t n q D C L = (eF.mk [] [] [], 11) ∨ ∃ D' C' L', kf e t n q D C L = (eF.mk D' C' L', 0) ∧ I [] D' C' L'
 | 0, q, D, C, L, h => .inl rfl
 | n + 1, [], D, C, L, h => .inr ⟨D, C, L, rfl, h⟩
 | n + 1, v :: q, D, C, L, h => by
  rw [kf]
  split
  ·exact .inl rfl
  ·rename_i hc
   exact aaM I hs n _ _ _ _ (hs v q D C L h hc)
theorem aov {e : aM} (hE : Ve e) {r : Int} {p : aS} (i : Nat) : tbi (lJ e r p).Local i = true ↔ ∃ a ∈ e.List, fL r p a = true ∧ a.Bit = i := by
 have key : ∀ (l : List ah) (acc : Int), (∀ a ∈ l, 0 ≤ a.Bit ∧ a.Bit < 64) → (tbi (l.foldl orA acc) i = true ↔ tbi acc i = true ∨ ∃ a ∈ l, a.Bit = i) := by
  intro l
  induction l with
  | nil => intro acc _; simp
  | cons a l ih =>
   intro acc h
   have hb := h a (by simp)
   rw [List.foldl_cons, ih _ fun x hx => h x (by simp [hx])]
   unfold orA vl
   rw [tbo, nU a.Bit.toNat i (by omega), Bool.or_eq_true, decide_eq_true_eq]
   constructor
   ·rintro ((h | h) | ⟨x, hx, h⟩)
    ·exact .inl h
    ·exact .inr ⟨a, by simp, by omega⟩
    ·exact .inr ⟨x, by simp [hx], h⟩
   ·rintro (h | ⟨x, hx, h⟩)
    ·exact .inl (.inl h)
    ·rcases List.mem_cons.1 hx with rfl | hx
     ·exact .inl (.inr (by omega))
     ·exact .inr ⟨x, hx, h⟩
 show tbi ((e.List.filter (fL r p)).foldl orA 0) i = true ↔ _
 rw [key _ 0 fun a ha => hE.bit (List.mem_filter.1 ha).1, jI]
 simp only [Bool.false_eq_true, false_or, List.mem_filter, and_assoc]
theorem aow {e : aM} (hE : Ve e) {r : Int} {p : aS} {a : ah} (ha : a ∈ e.List) : tbi (lJ e r p).Local a.Bit.toNat = fL r p a := by
 have hb := hE.bit ha
 rw [Bool.eq_iff_iff, aov hE]
 constructor
 ·rintro ⟨b, hb2, h1, h2⟩
  have := hE.akT hb2 ha (by omega)
  subst this; exact h1
 ·intro h; exact ⟨a, ha, h, by omega⟩
theorem aaX {p : aS} (hp : vk p = true) {b : Int} (h0 : 0 ≤ b) (h1 : b < 64) (hb : tbi p.Bits b.toNat = true) : jF p b = some (aS.mk p.Mode p.bQ p.Set p.Length p.TTL p.cv p.cw p.dx (p9 b.toNat) p.cz) := by
 unfold jF
 have e1 : ¬ b < 0 := by omega
 have e2 : ¬ 63 < b := by omega
 simp only [jn, rI, hp, bK, Bool.not_true, cond_false, decide_eq_false e1, decide_eq_false e2, decide_eq_true h0, chk, cond_true, acp p.Bits h0 h1, hb, if_true, vh h0 h1]
 rfl
theorem abn {e : aM} {r : Int} {p : aS} {a : ah} (h : fL r p a = true) : a.aR = r ∧ tbi p.Bits a.Bit.toNat = true ∧ a.Kind = 3 := by
 simp only [fL, kX, Bool.and_eq_true, decide_eq_true_eq] at h
 exact ⟨h.1.1, h.1.2, h.2⟩
/-- the loop aY delivers -/
theorem afY {β : Type} {e : aM} (hE : Ve e) {r : Int} {p : aS} (hp : vk p = true) {D : List cA} (hD : D.length ≤ 900000) {K : List cA → Option β} :
  bY e.List 0 (fun (j2 : Int) (e2 : ah) (Z2 : (List cA) → Option β) (m_4 : (List cA)) => jn (fun (m_5 : (List cA)) => Z2 m_5) fun J2 => chk (decide (0 ≤ e2.Bit)) <| bif decide (bH .and .u64 (Int.fdiv (lJ e r p).Local (2 ^ min e2.Bit.toNat 64)) (1:Int) = (1:Int)) then bnd (jF p e2.Bit) fun (dh : aS) => bnd (eR m_4 ([(cA.mk r dh)] : List cA)) fun (l_1 : List cA) => J2 l_1 else J2 m_4) K D = K (D ++ oI e r p) := by
 have hl := hE.small
 refine nF (L := e.List) (fun q m => m = D ++ (q.filter (fL r p)).map (afW r p)) (fun q l => K (D ++ oI e r p)) (fun s hs => by rw [hs]; rfl) (fun q x rest s Z h hi hZ => ?_) e.List [] D rfl (by simp)
 subst hi
 have hx : x ∈ e.List := by rw [← h]; simp
 obtain ⟨b0, b1⟩ := hE.bit hx
 have hql : q.length ≤ 64 := by
  have : e.List.length = q.length + (rest.length + 1) := by rw [← h]; simp
  omega
 have hfl : (q.filter (fL r p)).length ≤ 64 := Nat.le_trans (List.length_filter_le _ _) hql
 simp only [jn]
 rw [decide_eq_true b0, acp _ b0 b1, aow hE hx]
 simp only [chk, cond_true]
 cases hc : fL r p x
 ·simp only [Bool.false_eq_true, if_false]
  refine hZ _ ?_
  simp [List.filter_append, List.filter_cons, hc]
 ·obtain ⟨_, h2, _⟩ := abn (e := e) hc
  simp only [if_true, decide_true, cond_true]
  rw [aaX hp b0 b1 h2, bK, p8 (by simp; omega), bK]
  refine hZ _ ?_
  simp [List.filter_append, List.filter_cons, hc, afW, vl]
/-- the loop along a way -/
theorem aaN {β : Type} {b : Int} {K : Int × List bp → Option β} : ∀ (l : List Int) (j : Nat) (r : Int) (C : List bp), C.length + l.length ≤ 900000 → bY l j (fun (j4 : Int) (e4 : Int) (Z4 : (Int × (List bp)) → Option β) (sg : Int × (List bp)) => match sg with | (gh, en) => bnd (eR en ([(bp.mk gh e4 b)] : List bp)) fun (l_4 : List bp) => Z4 (e4, l_4)) K (r, C) = K (vm r l, C ++ iI b r l)
 | [], _, r, C, _ => by simp [bY, vm, iI]
 | x :: l, j, r, C, h => by
  simp only [List.length_cons] at h
  simp only [bY]
  rw [p8 (by omega), bK, aaN l (j + 1) x _ (by simp; omega)]
  simp [vm, iI]
theorem aaO {t : aa} {r b : Int} (l : List ah) (x : ah) : iT t r b (l ++ [x]) = iT t r b l ++ if okA t r x then iI b r (lW t r x).1 else [] := by
 unfold iT
 rw [List.filter_append, List.flatMap_append]
 cases h : okA t r x <;> simp [List.filter_cons, h]
theorem afZ {t : aa} {r b : Int} (p q : List ah) : (iT t r b p).length ≤ (iT t r b (p ++ q)).length := by
 unfold iT
 rw [List.filter_append, List.flatMap_append, List.length_append]; omega
theorem abo (f : Int → List Int) (b : Int) : ∀ (n : Nat) (x : Int) (out : List Int), (rtF f b n x out).length ≤ out.length + n
 | 0, _, _ => by simp [rtF]
 | n + 1, x, out => by
  rw [rtF]
  split
  ·omega
  ·split
   ·simp
   ·rename_i y _ _
    have := abo f b n y (out ++ [y])
    simp at this; omega
theorem abp {t : aa} {r : Int} {a : ah} : (lW t r a).1.length ≤ 30 := by
 unfold lW
 by_cases h : a.Kind = 2
 ·rw [if_pos h]
  have := abo (fN t a.To) a.To 30 r []
  simpa [eX] using this
 ·rw [if_neg h]; simp
/-- the loop yt the copies -/
theorem adx {e : aM} {t : aa} (hE : Ve e) (hv : Vt t) {r : Int} {p : aS} {q : List aB} {C : List bp} {L : List cH} (hq : q.length ≤ 800000) (hC : C.length ≤ 2000) (hL : L.length ≤ 800000)
  {K : List aB × List bp × List cH → Option (eF × Int)} :
  bY ((cV e r p).map fun a => aX.mk a (fS e r p a)) 0 (fun (j3 : Int) (e3 : aX) (Z3 : ((List aB) × (List bp) × (List cH)) → Option _) (sg : (List aB) × (List bp) × (List cH)) => match sg with | (gf, m_7, m_8) => jn (fun (sg : (List aB) × (List bp) × (List cH)) => match sg with | (lR, m_9, fZ) => Z3 (lR, m_9, fZ)) fun J4 => bnd (gr t r e3.eE) fun (de : (List Int) × Bool) => bif !de.2 then chk (decide (0 ≤ e3.eE.Bit)) <| bnd (eR m_8 ([(cH.mk r (IntKind.wrap .u64 ((1:Int) * 2 ^ min e3.eE.Bit.toNat 64)))] : List cH)) fun (l_3 : List cH) => J4 (gf, m_7, l_3) else bY de.1 0 (fun (j4 : Int) (e4 : Int) (Z4 : (Int × (List bp)) → Option _) (sg : Int × (List bp)) => match sg with | (gh, en) => bnd (eR en ([(bp.mk gh e4 e3.copy_.Frame.aJ.Bits)] : List bp)) fun (l_4 : List bp) => Z4 (e4, l_4)) (fun (sg : Int × (List bp)) => match sg with | (gh, en) => bif decide ((2000:Int) < (en.length:Int)) then some ((eF.mk [] [] []), (11:Int)) else bnd (eR gf ([(aB.mk gh e3.copy_.Frame.aJ)] : List aB)) fun (l_5 : List aB) => J4 (l_5, en, m_8)) (r, m_7)) K (q, C, L)
  = if 2000 < (C ++ iT t r (dU e r p) (cV e r p)).length then some (eF.mk [] [] [], 11) else K (q ++ lX t r (goP e r p) (cV e r p), C ++ iT t r (dU e r p) (cV e r p), L ++ newL t r (cV e r p)) := by
 have hsl : (cV e r p).length ≤ 64 := Nat.le_trans (List.length_filter_le _ _) hE.small
 have key := nF (L := (cV e r p).map fun a => aX.mk a (fS e r p a)) (K := K)
  (B := (fun (j3 : Int) (e3 : aX) (Z3 : ((List aB) × (List bp) × (List cH)) → Option _) (sg : (List aB) × (List bp) × (List cH)) => match sg with | (gf, m_7, m_8) => jn (fun (sg : (List aB) × (List bp) × (List cH)) => match sg with | (lR, m_9, fZ) => Z3 (lR, m_9, fZ)) fun J4 => bnd (gr t r e3.eE) fun (de : (List Int) × Bool) => bif !de.2 then chk (decide (0 ≤ e3.eE.Bit)) <| bnd (eR m_8 ([(cH.mk r (IntKind.wrap .u64 ((1:Int) * 2 ^ min e3.eE.Bit.toNat 64)))] : List cH)) fun (l_3 : List cH) => J4 (gf, m_7, l_3) else bY de.1 0 (fun (j4 : Int) (e4 : Int) (Z4 : (Int × (List bp)) → Option _) (sg : Int × (List bp)) => match sg with | (gh, en) => bnd (eR en ([(bp.mk gh e4 e3.copy_.Frame.aJ.Bits)] : List bp)) fun (l_4 : List bp) => Z4 (e4, l_4)) (fun (sg : Int × (List bp)) => match sg with | (gh, en) => bif decide ((2000:Int) < (en.length:Int)) then some ((eF.mk [] [] []), (11:Int)) else bnd (eR gf ([(aB.mk gh e3.copy_.Frame.aJ)] : List aB)) fun (l_5 : List aB) => J4 (l_5, en, m_8)) (r, m_7)))
  (fun pr (sg : List aB × List bp × List cH) => sg = (q ++ lX t r (goP e r p) (pr.map (·.eE)), C ++ iT t r (dU e r p) (pr.map (·.eE)), L ++ newL t r (pr.map (·.eE))) ∧ (C ++ iT t r (dU e r p) (pr.map (·.eE))).length ≤ 2000)
  (fun pr l => if 2000 < (C ++ iT t r (dU e r p) (cV e r p)).length then some (eF.mk [] [] [], 11) else K (q ++ lX t r (goP e r p) (cV e r p), C ++ iT t r (dU e r p) (cV e r p), L ++ newL t r (cV e r p))) ?_ ?_ _ [] (q, C, L) rfl ?_
 ·exact key
 ·rintro s ⟨hs, hl⟩
  have em : ((cV e r p).map fun a => aX.mk a (fS e r p a)).map (·.eE) = cV e r p := by rw [List.map_map]; exact List.map_id' _
  rw [em] at hs hl
  rw [if_neg (by omega), hs]
 ·rintro pr x rest s Z h ⟨hi, hl⟩ hZ
  subst hi
  have em : (pr ++ x :: rest).map (·.eE) = cV e r p := by
   rw [h, List.map_map]; exact List.map_id' _
  have hxm : x ∈ (cV e r p).map fun a => aX.mk a (fS e r p a) := by rw [← h]; simp
  obtain ⟨a, ha, rfl⟩ := List.mem_map.1 hxm
  have hae : a ∈ e.List := (List.mem_filter.1 ha).1
  obtain ⟨b0, b1⟩ := hE.bit hae
  have aox : (pr.map (·.eE)).length ≤ 64 := by
   have := congrArg List.length em
   rw [List.map_append, List.length_append] at this
   omega
  have hQl : (lX t r (goP e r p) (pr.map (·.eE))).length ≤ 64 := by
   unfold lX; rw [List.length_map]; exact Nat.le_trans (List.length_filter_le _ _) aox
  have hLl : (newL t r (pr.map (·.eE))).length ≤ 64 := by
   unfold newL; rw [List.length_map]; exact Nat.le_trans (List.length_filter_le _ _) aox
  have hwl := abp (t := t) (r := r) (a := a)
  have esn : ((pr ++ [aX.mk a (fS e r p a)]).map (·.eE)) = pr.map (·.eE) ++ [a] := by simp
  simp only [jn, akW hv, bK]
  show (bif !okA t r a then _ else _) = _
  cases hok : okA t r a
  ·simp only [Bool.not_false, cond_true]
   rw [decide_eq_true b0, vh b0 b1, p8 (by simp; omega)]
   simp only [chk, cond_true, bK]
   refine hZ _ ?_
   rw [esn, aaO, hok]
   refine ⟨?_, by simpa using hl⟩
   simp [lX, newL, List.filter_append, List.filter_cons, hok, vl]
  ·simp only [Bool.not_true, cond_false]
   rw [aaN _ _ _ _ (by simp at hl ⊢; omega)]
   have e1 : C ++ iT t r (dU e r p) (pr.map (·.eE)) ++ iI (dU e r p) r (lW t r a).1 = C ++ iT t r (dU e r p) ((pr ++ [aX.mk a (fS e r p a)]).map (·.eE)) := by
    rw [esn, aaO, hok]; simp
   show (bif decide ((2000:Int) < ((C ++ iT t r (dU e r p) (pr.map (·.eE)) ++ iI (dU e r p) r (lW t r a).1).length : Int)) then _ else _) = _
   rw [e1]
   by_cases hb : 2000 < (C ++ iT t r (dU e r p) ((pr ++ [aX.mk a (fS e r p a)]).map (·.eE))).length
   ·rw [decide_eq_true (by omega), cond_true, if_pos]
    have := afZ (t := t) (r := r) (b := dU e r p) ((pr ++ [aX.mk a (fS e r p a)]).map (·.eE)) (rest.map (·.eE))
    rw [← List.map_append, List.append_assoc, List.singleton_append, em] at this
    rw [List.length_append] at hb ⊢
    omega
   ·rw [decide_eq_false (by omega), cond_false, p8 (by simp; omega), bK]
    refine hZ _ ⟨?_, by omega⟩
    refine Prod.ext ?_ (Prod.ext e1 ?_)
    ·rw [esn]; simp [lX, List.filter_append, List.filter_cons, hok]; rfl
    ·rw [esn]; simp [newL, List.filter_append, List.filter_cons, hok]
 ·exact ⟨by simp [lX, iT, newL], by simpa [iT] using hC⟩
/-- a run aY is asked rightly -/
theorem abq {e : aM} {t : aa} (hE : Ve e) (hv : Vt t) {p : aS} (hp : Pk e p) {r : Int} (hr : r ∈ ids t) : fO e t p r = some (kf e t 5000 [aB.mk r p] [] [] []) := by
 have hl := hE.small
 have hnr := hv.nr
 unfold fO
 simp only [jn, rD e (by omega), rE.2 hE, bK, va, nk.2 hv, rI, hp.v, akD t r (by omega), nR.1 hr, zC, hp.agO, decide_true, Bool.and_true, Bool.not_true, cond_false]
 refine Ok.eq (Ok.whl (fun sg : List aB × List cA × List bp × List cH => match sg with | (q, D, C, L) => kf e t 5000 q D C L = kf e t 5000 [aB.mk r p] [] [] [] ∧ (∀ v ∈ q, Pk e v.bA) ∧ C.length ≤ 2000 ∧ q.length ≤ C.length + 1 ∧ ∃ k : Nat, k + runM q C ≤ 2001 ∧ D.length ≤ 64 * k ∧ L.length ≤ 65 * k) (fun sg => runM sg.1 sg.2.2.1) ⟨rfl, by simpa using hp, by simp, by simp, 0, by simp [runM], by simp, by simp⟩ (by show runM [aB.mk r p] [] < _; simp [runM]) ?_)
 rintro ⟨q, D, C, L⟩ Z ⟨h1, h2, h3, h4, k, h5, h6, h7⟩ hZ
 cases q with
 | nil =>
  simp only [List.length_nil, Int.natCast_zero, decide_false, Int.lt_irrefl, cond_false]
  exact ⟨_, rfl, h1⟩
 | cons v q =>
  have hpv := h2 v (by simp)
  rw [decide_eq_true (by simp only [List.length_cons]; omega), cond_true]
  have e0 : elO (v :: q) (0 : Int) = some v := rfl
  rw [e0, bK, yb hE, bK]
  have hk : k ≤ 2001 := by omega
  refine Eq.subst (motive := fun z => Ok z _) (afY (e := e) (r := v.bq) (p := v.bA) hE hpv.v (D := D) (by omega)).symm ?_
  have arx : ∀ (J : List cH → Option (eF × Int)), (bif !decide ((lJ e v.bq v.bA).mg = (0:Int)) then bnd (eR L ([(cH.mk v.bq (lJ e v.bq v.bA).mg)] : List cH)) fun (l_2 : List cH) => J l_2 else J L) = J (L ++ mH e v.bq v.bA) := fun J => by
   unfold mH
   by_cases hz : (lJ e v.bq v.bA).mg = 0
   ·rw [decide_eq_true hz, if_pos hz]; simp
   ·rw [decide_eq_false hz, if_neg hz]
    simp only [Bool.not_false, cond_true]
    rw [p8 (by omega), bK]
  have hlo : (mH e v.bq v.bA).length ≤ 1 := by unfold mH; split <;> simp
  simp only [jn]
  refine Eq.subst (motive := fun z => Ok z _) (arx _).symm ?_
  refine Eq.subst (motive := fun z => Ok z _) (adx (e := e) (t := t) hE hv (r := v.bq) (p := v.bA) (q := v :: q) (C := C) (L := L ++ mH e v.bq v.bA) (by omega) h3 (by rw [List.length_append]; omega)).symm ?_
  have tX : kf e t 5000 (v :: q) D C L = if 2000 < (C ++ jc e t v).length then (eF.mk [] [] [], 11) else kf e t 4999 (q ++ kY e t v) (D ++ oI e v.bq v.bA) (C ++ jc e t v) (L ++ pg e t v) := rfl
  show Ok (if 2000 < (C ++ jc e t v).length then _ else _) _
  by_cases hb : 2000 < (C ++ jc e t v).length
  ·rw [if_pos hb]
   refine ⟨_, rfl, ?_⟩
   rw [← h1, tX, if_pos hb]
  ·rw [if_neg hb]
   have hless := aaL (e := e) (t := t) (q := q) hb
   have hq2 := abm (t := t) (r := v.bq) (b := dU e v.bq v.bA) (p := goP e v.bq v.bA) (cV e v.bq v.bA)
   have ary : kf e t 4999 (q ++ kY e t v) (D ++ oI e v.bq v.bA) (C ++ jc e t v) (L ++ pg e t v) = kf e t 5000 (q ++ kY e t v) (D ++ oI e v.bq v.bA) (C ++ jc e t v) (L ++ pg e t v) :=
    wq _ _ _ _ _ _ (by omega) (by omega)
   have arz : ((v :: q) ++ lX t v.bq (goP e v.bq v.bA) (cV e v.bq v.bA)).length = 1 + (q ++ kY e t v).length := by
    simp [kY]; omega
   refine Ok.bnd (aap ⟨by omega, by rw [arz]; omega, by omega⟩) fun m hm => ?_
   have em : m = q ++ kY e t v := by
    rw [hm.1]
    show List.drop 1 (List.take (((v :: q ++ lX t v.bq (goP e v.bq v.bA) (cV e v.bq v.bA)).length : Int)).toNat (v :: q ++ lX t v.bq (goP e v.bq v.bA) (cV e v.bq v.bA))) = _
    rw [Int.toNat_natCast, List.take_length]; rfl
   subst em
   have hD : (oI e v.bq v.bA).length ≤ 64 := by unfold oI; rw [List.length_map]; exact Nat.le_trans (List.length_filter_le _ _) hl
   have hS : (cV e v.bq v.bA).length ≤ 64 := Nat.le_trans (List.length_filter_le _ _) hl
   have hLn : (newL t v.bq (cV e v.bq v.bA)).length ≤ 64 := by unfold newL; rw [List.length_map]; exact Nat.le_trans (List.length_filter_le _ _) hS
   refine hZ _ ⟨?_, fun u hu => ?_, (show (C ++ jc e t v).length ≤ 2000 by omega), ?_, k + 1, ?_, ?_, ?_⟩ hless
   ·rw [← h1, tX, if_neg hb, ary, List.append_assoc]; rfl
   ·rcases List.mem_append.1 hu with hu | hu
    ·exact h2 u (by simp [hu])
    ·obtain ⟨a, ha, rfl⟩ := List.mem_map.1 hu
     have hs := (List.mem_filter.1 (List.mem_filter.1 ha).1).2
     simp only [eA, Bool.and_eq_true, Bool.not_eq_true', decide_eq_false_iff_not] at hs
     have ht := (j9.1 hpv.v).2.2.2.2.1
     exact hpv.go hE v.bq hs.2 (by have := hs.1.2; omega)
   ·simp only [List.length_append, List.length_cons] at h4 ⊢
    unfold kY
    omega
   ·show k + 1 + runM (q ++ kY e t v) (C ++ jc e t v) ≤ 2001
    omega
   ·rw [List.length_append]; omega
   ·show (L ++ mH e v.bq v.bA ++ newL t v.bq (cV e v.bq v.bA)).length ≤ 65 * (k + 1)
    rw [List.length_append, List.length_append]; omega
end Go.Proofs.Ytdjeacigeegklaa
