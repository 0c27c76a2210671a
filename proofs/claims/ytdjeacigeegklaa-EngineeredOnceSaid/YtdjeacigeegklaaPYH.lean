/- Plain: the yO aY the later vS tape makes fit af5 o8. No condition but bL aY stand in each. -/
import Derived.Test.YtdjeacigeegklaaPYG
namespace Go.Proofs.Ytdjeacigeegklaa
set_option linter.all false
open Go
def shA (c : Int) (a : ah) : ah := ah.mk (a.Bit + c) a.aR a.Kind a.To
theorem EL.shift {t : aa} {m : List ah} (h : EL t 0 m) (c : Nat) : EL t c (m.map (shA (c : Int))) := by
 refine ⟨fun i a hi => ?_, fun a ha => ?_, ?_⟩
 ·rw [List.getElem?_map] at hi
  cases hm : m[i]? with
  | none => rw [hm] at hi; cases hi
  | some b =>
   rw [hm] at hi; cases hi
   have := h.bit i b hm
   simp only [shA]; omega
 ·obtain ⟨b, hb, rfl⟩ := List.mem_map.1 ha
  obtain ⟨h1, h2, h3⟩ := h.ok b hb
  exact ⟨h1, h2, h3⟩
 ·exact List.pairwise_map.2 (h.dup.imp fun h => h)
theorem akS {t : aa} (hv : Vt t) {n : Int} (h : (tV t n).2 = 0) : Ef t (tV t n).1 ∧ tV t n = (aM.mk n (iS 0 (gQ t)), 0) ∧ ((gQ t).length : Int) ≤ n := by
 unfold tV at *
 rw [if_pos (nk.2 hv)] at *
 cases hl : jD n
 ·rw [hl] at h; simp at h
 ·rw [hl] at h
  simp only [Bool.not_true, cond_false] at h ⊢
  by_cases hn : n < ((gQ t).length : Int)
  ·rw [if_pos hn] at h; simp at h
  ·rw [if_neg hn]
   refine ⟨(akR hv).ef hv (by simpa [jD] using hl) (by rw [rG]; omega), rfl, by omega⟩
theorem vi {t : aa} (hv : Vt t) {l : bf} (hl : l ∈ t.Links) {r q : Int} : fF r l = some q ↔ ((l.A = r ∧ l.B = q) ∨ (l.B = r ∧ l.A = q)) := by
 unfold fF
 have := hv.lt l hl
 by_cases h1 : r = l.A
 ·subst h1; simp; omega
 ·by_cases h2 : r = l.B
  ·subst h2; simp [h1]; intro h; omega
  ·simp [h1, h2]; omega
theorem ya {t : aQ} {g : aa} (h : dB t) (hv : Vt g) (hn : 1 ≤ g.aC.length) : Ok (kS t g) (fun p => Ef g p.1 ∧ dB p.2) := by
 unfold kS
 have hnr := hv.nr; have hnl := hv.nl
 refine Ok.bnd (rB h (by simp) (by simp)) fun q hq => ?_
 have hlen : q.1 = 8 ∨ q.1 = 16 ∨ q.1 = 32 ∨ q.1 = 64 := by
  have := hq.1; simp only [List.mem_cons, List.not_mem_nil, or_false] at this; omega
 rw [acu, bK]
 refine Ok.jn (fun sg : Bool × List Int × Int => dB (aQ.mk sg.2.1 sg.2.2) ∧ (sg.1 = true → (tV g 64).2 = 0)) (fun s hs => ?_) fun J hJ => ?_
 rotate_left
 ·refine Ok.cs (fun hc => ?_) fun _ => hJ _ ⟨hq.2, fun h => by cases h⟩
  exact Ok.bnd (f_n hq.2 (by omega)) fun u hu => hJ _ ⟨hu.2, fun _ => by simpa using hc⟩
 obtain ⟨v, L, A⟩ := s
 obtain ⟨ht, hf⟩ := hs
 refine Ok.cs (fun hc => Ok.s ⟨(akS hv (hf hc)).1, ht⟩) fun _ => ?_
 refine Ok.vf (L := g.aC) (fun p (sg : List ah × List Int × Int) => EL g 0 sg.1 ∧ (∀ a ∈ sg.1, ∃ r ∈ p, r.ID = a.aR) ∧ sg.1.length ≤ 100 * p.length ∧ dB (aQ.mk sg.2.1 sg.2.2)) (fun p x rest s Z hL hI hZ => ?_) ([], L, A) ⟨EL.nil g 0, by simp, by simp, ht⟩ (fun s hs => ?_)
 ·obtain ⟨m, L1, A1⟩ := s
  obtain ⟨i1, i2, i3, i4⟩ := hI
  simp only at i1 i2 i3 i4
  have hx : x ∈ g.aC := by rw [hL]; simp
  have hxi : x.ID ∈ ids g := List.mem_map.2 ⟨x, hx, rfl⟩
  have hpl : p.length < 24 := by
   have : g.aC.length = p.length + (rest.length + 1) := by rw [hL]; simp
   omega
  have hnp : ∀ r ∈ p, r.ID ≠ x.ID := fun r hr => by
   have := hv.asc; rw [hL] at this
   have := (List.pairwise_append.1 this).2.2 r hr x (by simp); omega
  refine Ok.jn (fun sg : List Int × Int × List ah => EL g 0 sg.2.2 ∧ (∀ a ∈ sg.2.2, ∃ r ∈ p ++ [x], r.ID = a.aR) ∧ sg.2.2.length ≤ 100 * (p ++ [x]).length ∧ dB (aQ.mk sg.1 sg.2.1)) (fun s hs => hZ _ hs) fun J2 hJ2 => ?_
  refine Ok.jn (fun sg : List Int × Int × List ah => EL g 0 sg.2.2 ∧ (∀ a ∈ sg.2.2, (∃ r ∈ p, r.ID = a.aR) ∨ a.aR = x.ID ∧ a.Kind = 3) ∧ sg.2.2.length ≤ 100 * p.length + 1 ∧ dB (aQ.mk sg.1 sg.2.1)) (fun s hs => ?_) fun J3 hJ3 => ?_
  rotate_left
  ·refine Ok.bnd (f_n i4 (by omega)) fun u hu => Ok.cs (fun _ => ?_) fun _ => hJ3 _ ⟨i1, fun a ha => .inl (i2 a ha), by simp only; omega, hu.2⟩
   refine Ok.bnd (sY (by simp; omega)) fun m2 q2 => hJ3 _ ⟨?_, fun a ha => ?_, by rw [q2.1]; simp; omega, hu.2⟩
   ·rw [q2.1]
    refine i1.add rfl ⟨hxi, hxi, .inl ⟨rfl, rfl⟩⟩ fun a ha he => ?_
    obtain ⟨r, hr, e⟩ := i2 a ha
    simp only [tgA, bZ.mk.injEq] at he
    exact hnp r hr (by omega)
   ·simp only [q2.1] at ha
    rcases List.mem_append.1 ha with ha | ha
    ·exact .inl (i2 a ha)
    ·simp at ha; subst ha; exact .inr ⟨rfl, rfl⟩
  obtain ⟨L2, A2, m1⟩ := s
  obtain ⟨j1, j2, j3, j4⟩ := hs
  simp only at j1 j2 j3 j4
  refine Ok.vf (L := g.Links) (fun q (sg : List ah × List Int × Int) => EL g 0 sg.1 ∧ (∀ a ∈ sg.1, (∃ r ∈ p, r.ID = a.aR) ∨ a.aR = x.ID ∧ (a.Kind = 3 ∨ a.Kind = 1 ∧ a.To ∈ q.filterMap (fF x.ID))) ∧ sg.1.length ≤ 100 * p.length + 1 + q.length ∧ dB (aQ.mk sg.2.1 sg.2.2)) (fun q l arw s Z2 hL2 hI2 hZ2 => ?_) (m1, L2, A2) ⟨j1, fun a ha => (j2 a ha).imp id fun h => ⟨h.1, .inl h.2⟩, by simp; omega, j4⟩ (fun s hs => ?_)
  ·obtain ⟨m2, L3, A3⟩ := s
   obtain ⟨k1, k2, k3, k4⟩ := hI2
   simp only at k1 k2 k3 k4
   have hl : l ∈ g.Links := by rw [hL2]; simp
   have hql : q.length < 60 := by
    have : g.Links.length = q.length + (arw.length + 1) := by rw [hL2]; simp
    omega
   have hlt := hv.lt l hl
   have hA := nR.2 (hv.ends l hl).1
   have hB := nR.2 (hv.ends l hl).2
   have hA1 := vT hv hA; have hB1 := vT hv hB
   have hmono : ∀ a : ah, a.To ∈ q.filterMap (fF x.ID) → a.To ∈ (q ++ [l]).filterMap (fF x.ID) := fun a ha => by rw [List.filterMap_append]; exact List.mem_append_left _ ha
   refine Ok.jn (fun sg : List Int × Int × List ah => EL g 0 sg.2.2 ∧ (∀ a ∈ sg.2.2, (∃ r ∈ p, r.ID = a.aR) ∨ a.aR = x.ID ∧ (a.Kind = 3 ∨ a.Kind = 1 ∧ a.To ∈ (q ++ [l]).filterMap (fF x.ID))) ∧ sg.2.2.length ≤ 100 * p.length + 1 + (q ++ [l]).length ∧ dB (aQ.mk sg.1 sg.2.1)) (fun s hs => hZ2 _ hs) fun J4 hJ4 => ?_
   have pass : ∀ L5 A5, dB (aQ.mk L5 A5) → EL g 0 m2 ∧ (∀ a ∈ m2, (∃ r ∈ p, r.ID = a.aR) ∨ a.aR = x.ID ∧ (a.Kind = 3 ∨ a.Kind = 1 ∧ a.To ∈ (q ++ [l]).filterMap (fF x.ID))) ∧ m2.length ≤ 100 * p.length + 1 + (q ++ [l]).length ∧ dB (aQ.mk L5 A5) := fun L5 A5 h5 =>
    ⟨k1, fun a ha => (k2 a ha).imp id fun h => ⟨h.1, h.2.imp id fun h => ⟨h.1, hmono a h.2⟩⟩, by simp; omega, h5⟩
   have key : ∀ to_ : Int, (to_ ≠ 0 → fF x.ID l = some to_) → Ok (jn (fun (sg : Bool × List Int × Int) => match sg with | (v_2, kO, kP) => bif v_2 then bnd (eR m2 ([(ah.mk (m2.length:Int) x.ID (1:Int) to_)] : List ah)) fun (l_2 : List ah) => J4 (kO, kP, l_2) else J4 (kO, kP, m2)) fun J7 => (bif !decide (to_ = (0:Int)) then bnd (bn (aQ.mk L3 A3) (5:Int)) fun (cO : Int × aQ) => J7 (decide ((0:Int) < cO.1), cO.2.L, cO.2.At) else J7 (false, L3, A3))) (fun p => Ef g p.1 ∧ dB p.2) := fun to_ hto => by
    refine Ok.jn (fun sg : Bool × List Int × Int => dB (aQ.mk sg.2.1 sg.2.2) ∧ (sg.1 = true → to_ ≠ 0)) (fun s hs => ?_) fun J7 hJ7 => ?_
    ·obtain ⟨v, L5, A5⟩ := s
     refine Ok.cs (fun hc => ?_) fun _ => hJ4 _ (pass _ _ hs.1)
     have ho := hto (hs.2 hc)
     have aos : kW g x.ID to_ = true := jH.2 ⟨l, hl, by
      rcases (vi hv hl).1 ho with h | h
      ·exact .inl h
      ·exact .inr h⟩
     have hnew : to_ ∉ q.filterMap (fF x.ID) := fun hm => by
      have hnd := sF hv x.ID
      rw [hL2, List.filterMap_append, List.filterMap_cons_some ho] at hnd
      have := (List.nodup_append.1 hnd).2.2 to_ hm to_ (by simp)
      exact this rfl
     refine Ok.bnd (sY (by simp; omega)) fun m3 q3 => hJ4 _ ⟨?_, fun a ha => ?_, by rw [q3.1]; simp; omega, hs.1⟩
     ·rw [q3.1]
      refine k1.add rfl ⟨hxi, qt hv aos, .inr (.inl ⟨rfl, aos⟩)⟩ fun a ha he => ?_
      simp only [tgA, bZ.mk.injEq] at he
      rcases k2 a ha with ⟨r, hr, e⟩ | ⟨e1, e2 | ⟨e2, e3⟩⟩
      ·exact hnp r hr (by omega)
      ·omega
      ·rw [he.2.2] at e3; exact hnew e3
     ·simp only [q3.1] at ha
      rcases List.mem_append.1 ha with ha | ha
      ·exact (pass _ _ hs.1).2.1 a ha
      ·simp at ha; subst ha
       refine .inr ⟨rfl, .inr ⟨rfl, ?_⟩⟩
       rw [List.filterMap_append, List.filterMap_cons_some ho]; simp
    ·refine Ok.cs (fun hc => ?_) fun _ => hJ7 _ ⟨k4, fun h => by cases h⟩
     exact Ok.bnd (f_n k4 (by omega)) fun u hu => hJ7 _ ⟨hu.2, fun _ => by simpa using hc⟩
   unfold jn at key ⊢
   by_cases c1 : l.A = x.ID
   ·have c2 : ¬ l.B = x.ID := by omega
    simp only [c1, c2, decide_true, decide_false, cond_true, cond_false]
    exact key l.B fun _ => (vi hv hl).2 (.inl ⟨c1, rfl⟩)
   ·by_cases c2 : l.B = x.ID
    ·simp only [c1, c2, decide_true, decide_false, cond_true, cond_false]
     exact key l.A fun _ => (vi hv hl).2 (.inr ⟨c2, rfl⟩)
    ·simp only [c1, c2, decide_false, cond_false]
     exact key 0 fun h => absurd rfl h
  ·obtain ⟨m2, L3, A3⟩ := s
   obtain ⟨k1, k2, k3, k4⟩ := hs
   simp only at k1 k2 k3 k4
   have up : ∀ a ∈ m2, ∃ r ∈ p ++ [x], r.ID = a.aR := fun a ha => by
    rcases k2 a ha with ⟨r, hr, e⟩ | ⟨e1, _⟩
    ·exact ⟨r, by simp [hr], e⟩
    ·exact ⟨x, by simp, e1.symm⟩
   refine Ok.bnd (f_n k4 (by omega)) fun u hu => Ok.bnd (mq hu.1.1 (hu.1.2.1 (by omega))) fun y hy => ?_
   refine Ok.jn (fun sg : Bool × List Int × Int => dB (aQ.mk sg.2.1 sg.2.2) ∧ (sg.1 = true → y.ID ≠ x.ID)) (fun s hs => ?_) fun J8 hJ8 => ?_
   ·obtain ⟨v, L5, A5⟩ := s
    refine Ok.cs (fun hc => ?_) fun _ => hJ2 _ ⟨k1, up, by simp; omega, hs.1⟩
    have hne := hs.2 hc
    refine Ok.bnd (sY (by simp; omega)) fun m3 q3 => hJ2 _ ⟨?_, fun a ha => ?_, by rw [q3.1]; simp; omega, hs.1⟩
    ·rw [q3.1]
     refine k1.add rfl ⟨hxi, List.mem_map.2 ⟨y, hy.1, rfl⟩, .inr (.inr ⟨rfl, hne⟩)⟩ fun a ha he => ?_
     simp only [tgA, bZ.mk.injEq] at he
     rcases k2 a ha with ⟨r, hr, e⟩ | ⟨e1, e2 | ⟨e2, e3⟩⟩
     ·exact hnp r hr (by omega)
     ·omega
     ·omega
    ·simp only [q3.1] at ha
     rcases List.mem_append.1 ha with ha | ha
     ·exact up a ha
     ·simp at ha; subst ha; exact ⟨x, by simp, rfl⟩
   ·refine Ok.cs (fun hc => ?_) fun _ => hJ8 _ ⟨hu.2, fun h => by cases h⟩
    exact Ok.bnd (f_n hu.2 (by omega)) fun w hw => hJ8 _ ⟨hw.2, fun _ => by simpa using hc⟩
 ·obtain ⟨m, L1, A1⟩ := s
  obtain ⟨i1, i2, i3, i4⟩ := hs
  simp only at i1 i2 i3 i4
  refine Ok.bnd (aap ⟨by omega, by split <;> omega, by split <;> omega⟩) fun c hc => ?_
  have hcE : EL g 0 c := by rw [hc.1]; simpa using i1.take
  have hcl : (c.length : Int) ≤ q.1 := by have := hc.2; split at this <;> omega
  refine Ok.jn (fun sg : List Int × Int × List ah => Ef g (aM.mk q.1 sg.2.2) ∧ dB (aQ.mk sg.1 sg.2.1)) (fun s hs => Ok.s hs) fun J9 hJ9 => ?_
  refine Ok.jn (fun sg : Bool × List Int × Int => dB (aQ.mk sg.2.1 sg.2.2)) (fun s hs => ?_) fun J10 ab8 => ?_
  ·obtain ⟨v, L5, A5⟩ := s
   refine Ok.cs (fun _ => ?_) fun _ => hJ9 _ ⟨hcE.ef hv hlen (by simpa using hcl), hs⟩
   have esh : w64 (q.1 - (c.length : Int)) = ((q.1.toNat - c.length : Nat) : Int) := by rw [gH (by omega) (by omega)]; omega
   refine Ok.vf (L := c) (fun p (s : List ah) => s = p.map (shA ((q.1.toNat - c.length : Nat) : Int)) ++ c.drop p.length) (fun p x rest s Z hL hI hZ => ?_) c (by simp) (fun s hs2 => ?_)
   ·subst hI
    have hd : c.drop p.length = x :: rest := by rw [hL]; simp
    have hm : (p.map (shA ((q.1.toNat - c.length : Nat) : Int)) ++ c.drop p.length).length = c.length := by
     rw [hd, hL]; simp
    have e1 : elO (p.map (shA ((q.1.toNat - c.length : Nat) : Int)) ++ c.drop p.length) (p.length : Int) = some x := by
     rw [hd]
     have := ac9 (p.map (shA ((q.1.toNat - c.length : Nat) : Int))) x rest
     rwa [List.length_map] at this
    have hb : x.Bit = (p.length : Int) := by
     have := hcE.bit p.length x (by rw [hL]; simp)
     simpa using this
    have hpc : p.length < c.length := by rw [hL]; simp
    rw [e1, bK, hm, esh]
    refine Ok.bnd (ada (by omega) (by rw [hm]; omega)) fun m2 q2 => hZ _ ?_
    rw [q2.1, hd, gH (by omega) (by omega)]
    have e2 : c.drop (p ++ [x]).length = rest := by rw [hL]; simp
    rw [e2]
    simp [shA, List.set_append]
   ·rw [List.drop_length, List.append_nil] at hs2
    subst hs2
    refine hJ9 _ ⟨(hcE.shift _).ef hv hlen (by simp; omega), hs⟩
  ·refine Ok.bnd (f_n i4 (by omega)) fun u hu => Ok.cs (fun _ => ab8 _ hu.2) fun _ => ab8 _ hu.2
end Go.Proofs.Ytdjeacigeegklaa
