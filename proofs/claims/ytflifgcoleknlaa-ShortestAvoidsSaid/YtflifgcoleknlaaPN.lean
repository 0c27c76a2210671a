/- Several texts in one. No condition but those that stand in each. -/
import Derived.Test.YtflifgcoleknlaaPM
import Derived.Test.YtflifgcoleknlaaDA
import Derived.Test.YtflifgcoleknlaaDL
/- Plain: the topologies that the tape gives without mistakes are valid. No condition. -/
namespace Go.Proofs.Ytflifgcoleknlaa
set_option linter.all false
open Go
/-- one link of the tape, ahead of the order -/
def coL (l m : GLink) : Prop := l.B < m.B ∨ (l.B = m.B ∧ l.A < m.A)
theorem ord_valid {l : List GLink} (hl : l.length ≤ 1000000) (hd : l.Pairwise coL) : Ok (m_mk_order l) (fun m => m.Pairwise (fun a b => ltL a b = true) ∧ (∀ x, x ∈ m ↔ x ∈ l) ∧ m.length = l.length) := by
 unfold m_mk_order
 refine Ok.forL (fun P m => m.Pairwise (fun a b => ltL a b = true) ∧ (∀ x, x ∈ m ↔ x ∈ P) ∧ m.length = P.length) ?_ _ ⟨by simp, by simp, rfl⟩ fun s hs => Ok.s hs
 rintro P x r s Z hL ⟨i1, i2, i3⟩ hZ
 have hP : P.length < l.length := by rw [hL]; simp
 have hne : ∀ y ∈ s, ltL y x = false → ltL x y = true := fun y hy h => by
  rw [hL] at hd
  have := (List.pairwise_append.1 hd).2.2 y ((i2 y).1 hy) x (by simp)
  simp only [ltL, Bool.or_eq_false_iff, Bool.and_eq_false_iff, decide_eq_false_iff_not, Bool.or_eq_true, Bool.and_eq_true, decide_eq_true_eq] at *
  unfold coL at this
  omega
 refine Ok.whl (fun at1 : Int => (0 ≤ at1 ∧ at1 ≤ s.length) ∧ ∀ y ∈ s.take at1.toNat, ltL y x = true) (fun at1 => ((s.length : Int) - at1).toNat) ⟨by omega, by simp⟩ (by omega) ?_
 rintro a Z2 ⟨⟨ha0, ha1⟩, hlt⟩ hZ2
 refine Ok.jn (fun v : Bool => (v = true → ∃ h : a.toNat < s.length, ltL s[a.toNat] x = true) ∧ (v = false → ∀ h : a.toNat < s.length, ltL s[a.toNat] x = false)) ?_ ?_
 ·rintro v ⟨hv, hv2⟩
  refine Ok.cs (fun h => ?_) fun h => ?_
  ·obtain ⟨h1, h2⟩ := hv h
   rw [w64_id (by omega) (by omega)]
   refine hZ2 _ ⟨by omega, fun y hy => ?_⟩ (by omega)
   rw [show (a + 1).toNat = a.toNat + 1 by omega, List.take_succ_eq_append_getElem h1] at hy
   rcases List.mem_append.1 hy with hy | hy
   ·exact hlt y hy
   ·simp at hy; subst hy; exact h2
  ·have hv2 := hv2 h
   refine Ok.bnd (sli_ok ⟨by omega, by omega, by omega⟩) fun l1 h1 => ?_
   refine Ok.bnd (app_ok (by simp; omega)) fun l2 h2 => ?_
   refine Ok.bnd (app_ok (by simp at h2 ⊢; omega)) fun l3 h3 => ?_
   refine Ok.bnd (sli_ok ⟨by omega, by omega, by omega⟩) fun l4 h4 => ?_
   refine Ok.bnd (app_ok (by simp at h2 h3 ⊢; omega)) fun l5 h5 => ?_
   have e5 : l5 = s.take a.toNat ++ x :: s.drop a.toNat := by
    rw [h5.1, h3.1, h2.1, h1.1, h4.1]; simp
   have hgt : ∀ y ∈ s.drop a.toNat, ltL x y = true := fun y hy => by
    have hlen : a.toNat < s.length := by
     have := List.length_pos_of_mem hy
     rw [List.length_drop] at this; omega
    rw [List.drop_eq_getElem_cons hlen] at hy
    have h0 := hne _ (List.getElem_mem hlen) (hv2 hlen)
    rcases List.mem_cons.1 hy with rfl | hy
    ·exact h0
    ·have hp : (s.drop a.toNat).Pairwise (fun a b => ltL a b = true) := i1.sublist (List.drop_sublist _ _)
     rw [List.drop_eq_getElem_cons hlen, List.pairwise_cons] at hp
     exact ltL_trans _ _ _ h0 (hp.1 y hy)
   refine hZ _ ⟨?_, fun y => ?_, ?_⟩
   ·rw [e5]
    refine List.pairwise_append.2 ⟨i1.sublist (List.take_sublist _ _), List.pairwise_cons.2 ⟨hgt, i1.sublist (List.drop_sublist _ _)⟩, fun y hy z hz => ?_⟩
    rcases List.mem_cons.1 hz with rfl | hz
    ·exact hlt y hy
    ·exact ltL_trans _ _ _ (hlt y hy) (hgt z hz)
   ·have hs := List.take_append_drop a.toNat s
    have : y ∈ s ↔ y ∈ s.take a.toNat ∨ y ∈ s.drop a.toNat := by rw [← List.mem_append, hs]
    rw [e5, List.mem_append, List.mem_cons, List.mem_append, List.mem_singleton, ← i2 y, this]
    constructor
    ·rintro (h | h | h); exact .inl (.inl h); exact .inr h; exact .inl (.inr h)
    ·rintro ((h | h) | h); exact .inl h; exact .inr (.inr h); exact .inr (.inl h)
   ·rw [e5]; simp; omega
 ·intro J hJ
  refine Ok.cs (fun h => ?_) fun h => hJ _ ⟨by simp, fun _ h2 => by simp at h; omega⟩
  simp at h
  refine Ok.bnd (elO_ok ha0 h) fun e he => ?_
  obtain ⟨h1, h2⟩ := List.getElem?_eq_some_iff.1 he.2
  subst h2
  refine Ok.cs (fun g => hJ _ ⟨fun _ => ⟨h1, by simp [ltL]; simp at g; omega⟩, by simp⟩) fun g => ?_
  refine Ok.cs (fun g2 => ?_) fun g2 => hJ _ ⟨by simp, fun _ _ => by simp [ltL]; simp at g g2; omega⟩
  refine hJ _ ⟨fun hd => ⟨h1, ?_⟩, fun hd _ => ?_⟩
  ·simp at g g2 hd; simp [ltL]; omega
  ·simp at g g2 hd; simp [ltL]; omega
def okLk (l : GLink) : Prop := 1 ≤ l.A ∧ l.A < l.B ∧ (1 ≤ l.CostA ∧ l.CostA ≤ 5) ∧ (1 ≤ l.CostB ∧ l.CostB ≤ 5) ∧ 0 ≤ l.Capacity ∧ l.Capacity ≤ 3
/-- a topology of the tape: the routers from 1 on -/
structure Vg (g : GTopology) (most : Int) : Prop where
 v : Vt g
 n : 1 ≤ g.Routers.length ∧ (g.Routers.length : Int) ≤ most
 i : ∀ r ∈ g.Routers, r.ID ≤ most
theorem topol_valid {t : GTape} {most : Int} (h : TapeOk t) (hm : 1 ≤ most ∧ most ≤ 8) : Ok (m_mk_Tape_Topology t most 0) (fun p => Vg p.1 most ∧ TapeOk p.2) := by
 unfold m_mk_Tape_Topology
 refine Ok.bnd (range_ok h) fun p hp => ?_
 obtain ⟨hk, hp⟩ := hp
 have hk := hk (by omega) (by omega) (by omega)
 refine Ok.chk (by simp; omega) ?_
 refine Ok.forN (fun j (m : List GRouter) => (m.length : Int) = j - 1 ∧ m.Pairwise (fun a b => a.ID < b.ID) ∧ (∀ r ∈ m, 1 ≤ r.ID ∧ r.ID < j) ∧ ∀ i, 1 ≤ i → i < j → ∃ r ∈ m, r.ID = i) 1 (p.1 + 1) ?_ ?_ _ _ _ rfl (by omega) (by omega) ⟨by simp, by simp, by simp, fun i h1 h2 => by omega⟩
 ·rintro i s Z h1 h2 ⟨hI, hI2, hI3, hI4⟩ hZ
  refine Ok.bnd (app_ok (by simp; omega)) fun l1 hl1 => hZ _ ⟨by have := hl1.2; simp at this; omega, ?_, ?_, ?_⟩
  ·rw [hl1.1]
   refine List.pairwise_append.2 ⟨hI2, by simp, fun a ha b hb => ?_⟩
   have := hI3 a ha
   simp at hb; subst hb; exact this.2
  ·rw [hl1.1]; intro r hr
   rcases List.mem_append.1 hr with hr | hr
   ·have := hI3 r hr; omega
   ·simp at hr; subst hr; simp only; omega
  ·rw [hl1.1]; intro j h3 h4
   by_cases e : j = i
   ·exact ⟨GRouter.mk i true, List.mem_append_right _ (by simp), e.symm⟩
   ·obtain ⟨r, hr, e2⟩ := hI4 j h3 (by omega)
    exact ⟨r, List.mem_append_left _ hr, e2⟩
 rintro i rs hi1 hi2 ⟨hrs, hrs2, hrs3, hrs4⟩
 have hi2 := hi2 (by omega)
 subst hi2
 refine Ok.bnd (pick_ok hp (by decide) (by decide)) fun c hc => ?_
 have hcost : 1 ≤ c.1 ∧ c.1 ≤ 5 := by have := hc.1; simp at this; omega
 refine Ok.chk (by simp; omega) ?_
 refine Ok.forN (fun j (s : List GLink × List Int × Int) => ((s.1.length : Int) ≤ 8 * (j - 2) ∧ (∀ l ∈ s.1, okLk l ∧ l.B < j) ∧ s.1.Pairwise coL) ∧ TapeOk (GTape.mk s.2.1 s.2.2)) 2 (if 2 ≤ p.1 + 1 then p.1 + 1 else 2) ?_ ?_ _ _ _ ?_ (by omega) ?_ ⟨by simp, hc.2⟩
 ·intro b s Z hb1 hb2 hI hZ
  have hb3 : b < p.1 + 1 := by split at hb2 <;> omega
  obtain ⟨ms, L, At⟩ := s
  obtain ⟨⟨hlen, hok, hpw⟩, ht⟩ := hI
  simp only at hlen hok hpw
  refine Ok.bnd (range_ok ht) fun tr htr => ?_
  refine Ok.bnd (one_ok htr.2 (by omega)) fun sk hsk => ?_
  refine Ok.chk (by simp; omega) ?_
  refine Ok.forN (fun a (s : List GLink × List Int × Int) => ((s.1.length : Int) ≤ 8 * (b - 2) + (a - 1) ∧ (∀ l ∈ s.1, okLk l ∧ (l.B < b ∨ l.B = b ∧ l.A < a)) ∧ s.1.Pairwise coL) ∧ TapeOk (GTape.mk s.2.1 s.2.2)) 1 b ?_ ?_ _ _ _ rfl (by omega) (by omega) ⟨⟨by simp only; omega, fun l hl => ⟨(hok l hl).1, .inl (hok l hl).2⟩, hpw⟩, hsk⟩
  ·intro a s Z3 ha1 ha2 hI3 hZ3
   obtain ⟨m5, m6, m7⟩ := s
   obtain ⟨⟨hl5, hok5, hpw5⟩, ht5⟩ := hI3
   simp only at hl5 hok5 hpw5
   refine Ok.jn (fun s : List Int × Int × List GLink => ((s.2.2.length : Int) ≤ 8 * (b - 2) + a ∧ (∀ l ∈ s.2.2, okLk l ∧ (l.B < b ∨ l.B = b ∧ l.A < a + 1)) ∧ s.2.2.Pairwise coL) ∧ TapeOk (GTape.mk s.1 s.2.1)) (fun s hs => hZ3 _ ⟨by have h := hs.1; obtain ⟨_, _, _⟩ := s; simp only at h ⊢; exact ⟨by omega, h.2⟩, hs.2⟩) fun J1 hJ1 => ?_
   refine Ok.jn (fun s : Bool × List Int × Int => TapeOk (GTape.mk s.2.1 s.2.2)) (fun s hs => ?_) fun J2 hJ2 => ?_
   ·obtain ⟨v, m11, m12⟩ := s
    refine Ok.cs (fun _ => ?_) fun _ => hJ1 _ ⟨⟨by simp only; omega, fun l hl => ⟨(hok5 l hl).1, by have := (hok5 l hl).2; omega⟩, hpw5⟩, hs⟩
    refine Ok.bnd (range_ok hs) fun q7 h7 => ?_
    refine Ok.bnd (range_ok h7.2) fun q8 h8 => ?_
    refine Ok.bnd (next_ok h8.2 (by omega)) fun q9 h9 => ?_
    have c7 := h7.1 (by omega) (by omega) (by omega)
    have c8 := h8.1 (by omega) (by omega) (by omega)
    have c9 := h9.1.2.1 (by omega)
    have c90 := h9.1.1
    refine Ok.bnd (app_ok (by simp; omega)) fun l2 hl2 => hJ1 _ ⟨⟨by have := hl2.2; rw [List.length_cons, List.length_nil] at this; simp only; omega, ?_, ?_⟩, h9.2⟩
    ·simp only [hl2.1]; intro l hl
     rcases List.mem_append.1 hl with hl | hl
     ·exact ⟨(hok5 l hl).1, by have := (hok5 l hl).2; omega⟩
     ·simp only [List.mem_singleton] at hl; subst hl
      exact ⟨⟨ha1, ha2, ⟨c7.1, Int.le_trans c7.2 hcost.2⟩, ⟨c8.1, Int.le_trans c8.2 hcost.2⟩, c90, by show q9.1 ≤ 3; omega⟩, .inr ⟨rfl, by show a < a + 1; omega⟩⟩
    ·simp only [hl2.1]
     refine List.pairwise_append.2 ⟨hpw5, by simp, fun l hl m hm => ?_⟩
     have := (hok5 l hl).2
     simp at hm; subst hm; unfold coL; simp only; omega
   ·refine Ok.cs (fun _ => ?_) fun _ => Ok.bnd (one_ok ht5 (by omega)) fun q h => hJ2 _ h
    exact Ok.cs (fun _ => hJ2 _ ht5) fun _ => Ok.bnd (one_ok ht5 (by omega)) fun q h => hJ2 _ h
  ·intro a s ha1 ha2 hI3
   have ha2 := ha2 (by omega)
   obtain ⟨m5, m6, m7⟩ := s
   obtain ⟨⟨hl5, hok5, hpw5⟩, ht5⟩ := hI3
   simp only at hl5 hok5 hpw5
   exact hZ _ ⟨⟨by simp only; omega, fun l hl => ⟨(hok5 l hl).1, by have := (hok5 l hl).2; omega⟩, hpw5⟩, ht5⟩
 ·intro b s hb1 hb2 hI
  have hb2 := hb2 (by split <;> omega)
  have hb3 : b ≤ 9 := by split at hb2 <;> omega
  obtain ⟨m2, m3, m4⟩ := s
  obtain ⟨⟨hlen, hok, hpw⟩, ht⟩ := hI
  simp only at hlen hok hpw
  refine Ok.bnd (ord_valid (by omega) hpw) fun l hl => ?_
  obtain ⟨hl1, hl2, hl3⟩ := hl
  have hV : Vg (GTopology.mk rs l) most := by
   have hb4 : b = p.1 + 1 := by split at hb2 <;> omega
   have hends : ∀ x ∈ l, okLk x ∧ x.B < p.1 + 1 := fun x hx => by
    have := hok x ((hl2 x).1 hx)
    exact ⟨this.1, by omega⟩
   refine ⟨⟨by simp only; omega, by simp only; omega, fun r hr => by have := hrs3 r hr; omega, hrs2, fun x hx => ?_, fun x hx => ?_, fun x hx => (hends x hx).1.2.1, hl1⟩, by simp only; omega, fun r hr => by have := hrs3 r hr; omega⟩
   ·have := (hends x hx).1
    unfold okLk at this
    have c1 : costB x.CostA = true := by simp [costB]; omega
    have c2 : costB x.CostB = true := by simp [costB]; omega
    simp only [badL, c1, c2, Bool.not_true, Bool.or_self, Bool.false_or, Bool.or_eq_false_iff, decide_eq_false_iff_not]
    omega
   ·have := hends x hx
    unfold okLk at this
    obtain ⟨r1, g1, g2⟩ := hrs4 x.A (by omega) (by omega)
    obtain ⟨r2, g3, g4⟩ := hrs4 x.B (by omega) (by omega)
    exact ⟨hasB_iff.2 ⟨r1, g1, g2⟩, hasB_iff.2 ⟨r2, g3, g4⟩⟩
  simp only [jn]
  exact Ok.s ⟨hV, ht⟩
 ·split <;> omega
 ·split <;> omega
end Go.Proofs.Ytflifgcoleknlaa

/- Walks over weighted links, and the least costs. No condition but those that stand in each. -/
namespace Go.Proofs.Ytflifgcoleknlaa
set_option linter.all false
open Go
abbrev Cst := Int → Int → Option Int
def Pos (c : Cst) : Prop := ∀ x y k, c x y = some k → 1 ≤ k
def revC (c : Cst) : Cst := fun x y => c y x
theorem Pos.rev {c : Cst} (h : Pos c) : Pos (revC c) := fun x y k hk => h y x k hk
/-- a walk from a, with what it costs -/
inductive Wk (c : Cst) (a : Int) : Int → Int → Prop
 | nil : Wk c a a 0
 | snoc {x b m k : Int} : Wk c a x m → c x b = some k → Wk c a b (m + k)
theorem Wk.nonneg {c : Cst} (hc : Pos c) {a b m : Int} (h : Wk c a b m) : 0 ≤ m := by
 induction h with
 | nil => omega
 | snoc _ hk ih => have := hc _ _ _ hk; omega
theorem Wk.trans {c : Cst} {a x b m n : Int} (h : Wk c a x m) (h' : Wk c x b n) : Wk c a b (m + n) := by
 induction h' with
 | nil => simpa using h
 | snoc _ hk ih => rw [← Int.add_assoc]; exact .snoc ih hk
theorem Wk.one {c : Cst} {a b k : Int} (h : c a b = some k) : Wk c a b k := by have := Wk.snoc (.nil : Wk c a a 0) h; simpa using this
theorem Wk.rev {c : Cst} {a b m : Int} (h : Wk c a b m) : Wk (revC c) b a m := by
 induction h with
 | nil => exact .nil
 | @snoc x b m k _ hk ih =>
  have h1 : Wk (revC c) b x k := .one hk
  have := h1.trans ih
  rwa [Int.add_comm] at this
theorem Wk.unrev {c : Cst} {a b m : Int} (h : Wk (revC c) a b m) : Wk c b a m := h.rev
def IsD (c : Cst) (a b k : Int) : Prop := Wk c a b k ∧ ∀ m, Wk c a b m → k ≤ m
theorem IsD.uniq {c : Cst} {a b k m : Int} (h : IsD c a b k) (h' : IsD c a b m) : k = m := by
 have := h.2 _ h'.1; have := h'.2 _ h.1; omega
theorem isD_ex {c : Cst} (hc : Pos c) {a b m : Int} (h : Wk c a b m) : ∃ k, IsD c a b k ∧ k ≤ m := by
 have key : ∀ (n : Nat) (m : Int), m.toNat = n → Wk c a b m → ∃ k, IsD c a b k ∧ k ≤ m := by
  intro n
  induction n using Nat.strongRecOn with
  | _ n ih =>
   intro m hn h
   by_cases hmin : ∀ m', Wk c a b m' → m ≤ m'
   ·exact ⟨m, ⟨h, hmin⟩, Int.le_refl _⟩
   ·have hmin : ∃ m', Wk c a b m' ∧ ¬ m ≤ m' := by
     refine Classical.byContradiction fun hn => hmin fun m' h => ?_
     by_cases hle : m ≤ m'
     ·exact hle
     ·exact absurd ⟨m', h, hle⟩ hn
    obtain ⟨m', h1, h2⟩ := hmin
    have h3 := h1.nonneg hc
    obtain ⟨k, k1, k2⟩ := ih m'.toNat (by omega) m' rfl h1
    exact ⟨k, k1, by omega⟩
 exact key _ m rfl h
open Classical in
noncomputable def dst (c : Cst) (a b : Int) : Option Int := if h : ∃ k, IsD c a b k then some (Classical.choose h) else none
theorem dst_some {c : Cst} {a b k : Int} : dst c a b = some k ↔ IsD c a b k := by
 unfold dst
 constructor
 ·intro h
  split at h
  ·rename_i hx
   cases h
   exact Classical.choose_spec hx
  ·cases h
 ·intro h
  rw [dif_pos ⟨k, h⟩]
  exact congrArg some ((Classical.choose_spec (⟨k, h⟩ : ∃ k, IsD c a b k)).uniq h)
theorem dst_none {c : Cst} (hc : Pos c) {a b : Int} : dst c a b = none ↔ ∀ m, ¬ Wk c a b m := by
 constructor
 ·intro h m hm
  obtain ⟨k, h1, _⟩ := isD_ex hc hm
  rw [dst_some.2 h1] at h; cases h
 ·intro h
  cases hd : dst c a b with
  | none => rfl
  | some k => exact absurd (dst_some.1 hd).1 (h k)
theorem dst_self {c : Cst} (hc : Pos c) (a : Int) : dst c a a = some 0 := dst_some.2 ⟨.nil, fun m h => h.nonneg hc⟩
theorem dst_le {c : Cst} (hc : Pos c) {a b m : Int} (h : Wk c a b m) : ∃ k, dst c a b = some k ∧ k ≤ m := by
 obtain ⟨k, h1, h2⟩ := isD_ex hc h
 exact ⟨k, dst_some.2 h1, h2⟩
theorem dst_nonneg {c : Cst} (hc : Pos c) {a b k : Int} (h : dst c a b = some k) : 0 ≤ k := (dst_some.1 h).1.nonneg hc
theorem dst_tri {c : Cst} (hc : Pos c) {a b d i j : Int} (h : dst c a b = some i) (h' : dst c b d = some j) : ∃ k, dst c a d = some k ∧ k ≤ i + j :=
 dst_le hc ((dst_some.1 h).1.trans (dst_some.1 h').1)
theorem dst_edge {c : Cst} (hc : Pos c) {a b k : Int} (h : c a b = some k) : ∃ m, dst c a b = some m ∧ m ≤ k := dst_le hc (.one h)
theorem isD_rev {c : Cst} {a b k : Int} : IsD (revC c) a b k ↔ IsD c b a k :=
 ⟨fun h => ⟨h.1.unrev, fun m hm => h.2 m hm.rev⟩, fun h => ⟨h.1.rev, fun m hm => h.2 m hm.unrev⟩⟩
theorem dst_rev {c : Cst} (a b : Int) : dst (revC c) a b = dst c b a := by
 cases h : dst c b a with
 | some k => exact dst_some.2 (isD_rev.2 (dst_some.1 h))
 | none =>
  cases h' : dst (revC c) a b with
  | none => rfl
  | some k => rw [dst_some.2 (isD_rev.1 (dst_some.1 h'))] at h; cases h
theorem dst_last {c : Cst} {a b k : Int} (h : dst c a b = some k) (hne : a ≠ b) : ∃ x w m, dst c a x = some m ∧ c x b = some w ∧ k = m + w := by
 obtain ⟨h1, h2⟩ := dst_some.1 h
 cases h1 with
 | nil => exact absurd rfl hne
 | @snoc x b m w hx hw => exact ⟨x, w, m, dst_some.2 ⟨hx, fun m' h' => by have := h2 _ (.snoc h' hw); omega⟩, hw, rfl⟩
theorem dst_first {c : Cst} {a b k : Int} (h : dst c a b = some k) (hne : a ≠ b) : ∃ x w m, c a x = some w ∧ dst c x b = some m ∧ k = w + m := by
 rw [← dst_rev] at h
 obtain ⟨x, w, m, h1, h2, h3⟩ := dst_last h (Ne.symm hne)
 rw [dst_rev] at h1
 exact ⟨x, w, m, h2, h1, by omega⟩
theorem dst_pos {c : Cst} (hc : Pos c) {a b k : Int} (h : dst c a b = some k) (hne : a ≠ b) : 1 ≤ k := by
 obtain ⟨x, w, m, h1, h2, h3⟩ := dst_last h hne
 have := dst_nonneg hc h1
 have := hc _ _ _ h2
 omega
theorem dst_zero {c : Cst} (hc : Pos c) {a b : Int} (h : dst c a b = some 0) : a = b := by
 by_cases hab : a = b
 ·exact hab
 ·have := dst_pos hc h hab; omega
theorem dst_step_le {c : Cst} (hc : Pos c) {a x b w m : Int} (h : c a x = some w) (h' : dst c x b = some m) : ∃ k, dst c a b = some k ∧ k ≤ w + m :=
 dst_le hc ((Wk.one h).trans (dst_some.1 h').1)
theorem dst_snoc_le {c : Cst} (hc : Pos c) {a x b w m : Int} (h' : dst c a x = some m) (h : c x b = some w) : ∃ k, dst c a b = some k ∧ k ≤ m + w :=
 dst_le hc (.snoc (dst_some.1 h').1 h)
/-! ## the links of a topology -/
def lkC (t : GTopology) : Cst := fun x y => if adjT t x y then some (priceT t x y).1 else none
theorem price_pos {t : GTopology} (hv : Vt t) {x y : Int} (h : adjT t x y = true) : 1 ≤ (priceT t x y).1 ∧ (priceT t x y).1 ≤ 1000 := by
 obtain ⟨l, h1, h2⟩ := adj_iff.1 h
 have he : eitherB l x y = true := by simp [eitherB]; exact h2
 rw [price_eq hv h1 he]
 have := hv.okl l h1
 simp only [badL, Bool.or_eq_false_iff, Bool.not_eq_false', costB, Bool.and_eq_true, decide_eq_true_eq] at this
 unfold priceOf
 by_cases hb : (decide (l.A = x) && decide (l.B = y)) = true
 ·simp only [hb, cond_true]; omega
 ·simp only [Bool.not_eq_true] at hb; simp only [hb, cond_false]; omega
theorem lkC_pos {t : GTopology} (hv : Vt t) : Pos (lkC t) := fun x y k h => by
 unfold lkC at h
 split at h
 ·rename_i ha; cases h; exact (price_pos hv ha).1
 ·cases h
theorem lkC_some {t : GTopology} {x y k : Int} : lkC t x y = some k ↔ adjT t x y = true ∧ (priceT t x y).1 = k := by
 unfold lkC
 split
 ·rename_i h; simp [h]
 ·rename_i h; simp [h]
theorem lkC_le {t : GTopology} (hv : Vt t) {x y k : Int} (h : lkC t x y = some k) : 1 ≤ k ∧ k ≤ 1000 := by
 obtain ⟨h1, rfl⟩ := lkC_some.1 h; exact price_pos hv h1
theorem lkC_ids {t : GTopology} (hv : Vt t) {x y k : Int} (h : lkC t x y = some k) : x ∈ ids t ∧ y ∈ ids t := by
 obtain ⟨h1, _⟩ := lkC_some.1 h; exact ⟨adj_ids hv (adj_symm h1), adj_ids hv h1⟩
theorem Wk.ids {t : GTopology} (hv : Vt t) {a b m : Int} (h : Wk (lkC t) a b m) (ha : a ∈ ids t) : b ∈ ids t := by
 cases h with
 | nil => exact ha
 | snoc _ hk => exact (lkC_ids hv hk).2
theorem wk_cn {t : GTopology} {a b : Int} : (∃ m, Wk (lkC t) a b m) ↔ Cn t [] a b := by
 constructor
 ·rintro ⟨m, h⟩
  induction h with
  | nil => exact .refl (by simp)
  | snoc _ hk ih => exact .step ih (lkC_some.1 hk).1 (by simp)
 ·intro h
  induction h with
  | refl => exact ⟨0, .nil⟩
  | step _ h1 _ ih =>
   obtain ⟨m, hm⟩ := ih
   exact ⟨_, .snoc hm (lkC_some.2 ⟨h1, rfl⟩)⟩
end Go.Proofs.Ytflifgcoleknlaa

/- What the program's search comes to: the least costs. No condition but those that stand in each. -/
namespace Go.Proofs.Ytflifgcoleknlaa
set_option linter.all false
open Go
/-! ## maps as lists -/
def KN {α : Type} (l : List (Int × α)) : Prop := (l.map (·.1)).Nodup
theorem getI_mem {α : Type} {l : List (Int × α)} {n : Int} {v : α} (h : getI l n = some v) : (n, v) ∈ l := by
 induction l with
 | nil => simp [getI] at h
 | cons p r ih =>
  rw [getI_cons] at h
  split at h
  ·rename_i hp; cases h; subst hp; exact List.mem_cons_self
  ·exact List.mem_cons_of_mem _ (ih h)
theorem mem_getI {α : Type} {l : List (Int × α)} {n : Int} {v : α} (hk : KN l) (h : (n, v) ∈ l) : getI l n = some v := by
 induction l with
 | nil => simp at h
 | cons p r ih =>
  simp only [KN, List.map_cons, List.nodup_cons] at hk
  rw [getI_cons]
  rcases List.mem_cons.1 h with rfl | h
  ·rw [if_pos rfl]
  ·have : p.1 ≠ n := fun e => hk.1 (by rw [e]; exact List.mem_map.2 ⟨_, h, rfl⟩)
   rw [if_neg this]; exact ih hk.2 h
theorem getI_key {α : Type} {l : List (Int × α)} {n : Int} : (getI l n).isSome = true ↔ n ∈ l.map (·.1) := by
 induction l with
 | nil => simp [getI]
 | cons p r ih =>
  rw [getI_cons]
  by_cases hp : p.1 = n
  ·simp [hp]
  ·rw [if_neg hp, ih]; simp [Ne.symm hp]
theorem setI_key {α : Type} {l : List (Int × α)} {n m : Int} {v : α} : m ∈ (setI l n v).map (·.1) ↔ m = n ∨ m ∈ l.map (·.1) := by
 rw [← getI_key, ← getI_key, getI_set]
 by_cases h : m = n <;> simp [h]
theorem setI_KN {α : Type} {l : List (Int × α)} {n : Int} {v : α} (hk : KN l) : KN (setI l n v) := by
 induction l with
 | nil => simp [setI, KN]
 | cons p r ih =>
  simp only [KN, List.map_cons, List.nodup_cons] at hk
  simp only [setI]
  split
  ·rename_i hp; subst hp; simp only [KN, List.map_cons, List.nodup_cons]; exact hk
  ·rename_i hp
   simp only [KN, List.map_cons, List.nodup_cons]
   refine ⟨fun hm => ?_, ih hk.2⟩
   rcases setI_key.1 hm with h | h
   ·exact hp h
   ·exact hk.1 h
theorem getI_del {α : Type} {l : List (Int × α)} {n : Int} (hk : KN l) (m : Int) : getI (delI l n) m = if m = n then none else getI l m := by
 induction l with
 | nil => simp [delI, getI]
 | cons p r ih =>
  simp only [KN, List.map_cons, List.nodup_cons] at hk
  simp only [delI]
  by_cases hp : p.1 = n
  ·rw [if_pos hp]
   by_cases hm : m = n
   ·rw [if_pos hm]
    cases hg : getI r m with
    | none => rfl
    | some v => exact absurd (getI_key.1 (by rw [hg]; rfl)) (by rw [hm, ← hp]; exact hk.1)
   ·rw [if_neg hm, getI_cons, if_neg (fun e => hm (by rw [← e, hp]))]
  ·rw [if_neg hp, getI_cons, getI_cons, ih hk.2]
   by_cases hm : p.1 = m
   ·rw [if_pos hm, if_pos hm, if_neg (fun e => hp (by rw [hm, e]))]
   ·rw [if_neg hm, if_neg hm]
theorem delI_KN {α : Type} {l : List (Int × α)} {n : Int} (hk : KN l) : KN (delI l n) := by
 induction l with
 | nil => exact hk
 | cons p r ih =>
  simp only [KN, List.map_cons, List.nodup_cons] at hk
  simp only [delI]
  split
  ·exact hk.2
  ·rename_i hp
   simp only [KN, List.map_cons, List.nodup_cons]
   refine ⟨fun hm => hk.1 ?_, ih hk.2⟩
   have := getI_key.2 hm
   rw [getI_del hk.2] at this
   split at this
   ·cases this
   ·exact getI_key.1 this
theorem KN.len {α : Type} {l : List (Int × α)} {V : List Int} (hk : KN l) (h : ∀ n v, getI l n = some v → n ∈ V) : l.length ≤ V.length := by
 have := nodup_len hk fun x hx => by
  obtain ⟨v, hv⟩ := Option.isSome_iff_exists.1 (getI_key.2 hx)
  exact h x v hv
 simpa using this
theorem KN.all {α : Type} {l : List (Int × α)} {V : List Int} (hk : KN l) (hV : V.Nodup) (h : ∀ n v, getI l n = some v → n ∈ V) (he : V.length ≤ l.length) {x : Int} (hx : x ∈ V) : (getI l x).isSome = true := by
 refine Classical.byContradiction fun hn => ?_
 have h1 : ∀ y ∈ l.map (·.1), y ∈ V.erase x := fun y hy => by
  obtain ⟨v, hv⟩ := Option.isSome_iff_exists.1 (getI_key.2 hy)
  refine (List.mem_erase_of_ne fun e => hn ?_).2 (h y v hv)
  rw [← e, hv]; rfl
 have h2 := nodup_len hk h1
 rw [List.length_map, List.length_erase_of_mem hx] at h2
 have := List.length_pos_of_mem hx
 omega
/-! ## the least entry -/
def lessB (m : List (Int × Int)) (n v b : Int) : Bool := ((decide (b = (0:Int))) || ((decide (v < ((getI m b).getD (0:Int)))) || ((decide (v = ((getI m b).getD (0:Int)))) && (decide (n < b)))))
def pickB (m : List (Int × Int)) : Int → Int → Int → Option Int := fun n v b => bif lessB m n v b then some n else some b
theorem pick_fold {m : List (Int × Int)} (h0 : ∀ n v, getI m n = some v → n ≠ 0) : ∀ (l : List (Int × Int)) (s : Int), (∀ p ∈ l, getI m p.1 = some p.2) → (s = 0 ∨ ∃ k, getI m s = some k) →
  ∃ b, foldB (pickB m) l s = some b ∧ (b = s ∨ ∃ v, (b, v) ∈ l) ∧ (l ≠ [] → b ≠ 0) ∧ (s ≠ 0 → b ≠ 0) ∧ ∀ n v, ((n, v) ∈ l ∨ (n = s ∧ s ≠ 0 ∧ getI m s = some v)) → ∀ k, getI m b = some k → k < v ∨ (k = v ∧ b ≤ n)
 | [], s, _, hs => ⟨s, rfl, .inl rfl, by simp, id, fun n v h k hk => by
   rcases h with h | ⟨rfl, _, h⟩
   ·simp at h
   ·rw [hk] at h; cases h; exact .inr ⟨rfl, Int.le_refl _⟩⟩
 | (n, v) :: r, s, hl, hs => by
  have hn := hl (n, v) (by simp)
  have hnz := h0 n v hn
  -- what the entry is measured by
  have step : ∃ s', pickB m n v s = some s' ∧ (s' = n ∨ s' = s) ∧ s' ≠ 0 ∧ (∀ k, getI m s' = some k → k < v ∨ (k = v ∧ s' ≤ n)) ∧ (s ≠ 0 → ∀ w, getI m s = some w → ∀ k, getI m s' = some k → k < w ∨ (k = w ∧ s' ≤ s)) := by
   unfold pickB
   cases hb : lessB m n v s with
   | true =>
    refine ⟨n, rfl, .inl rfl, hnz, fun k hk => by rw [hn] at hk; cases hk; exact .inr ⟨rfl, Int.le_refl _⟩, fun hs0 w hw k hk => ?_⟩
    rw [hn] at hk; cases hk
    simp only [lessB, hw, Option.getD_some, Bool.or_eq_true, Bool.and_eq_true, decide_eq_true_eq] at hb
    rcases hb with hb | hb | ⟨hb, hb2⟩
    ·exact absurd hb hs0
    ·exact .inl hb
    ·exact .inr ⟨hb, by omega⟩
   | false =>
    simp only [lessB, Bool.or_eq_false_iff, Bool.and_eq_false_iff, decide_eq_false_iff_not] at hb
    obtain ⟨b1, b2, b3⟩ := hb
    refine ⟨s, rfl, .inr rfl, b1, fun k hk => ?_, fun _ w hw k hk => by rw [hw] at hk; cases hk; exact .inr ⟨rfl, Int.le_refl _⟩⟩
    rw [hk] at b2 b3
    simp only [Option.getD_some] at b2 b3
    by_cases hkv : k = v
    ·refine .inr ⟨hkv, ?_⟩
     rcases b3 with b3 | b3
     ·exact absurd hkv.symm b3
     ·omega
    ·exact .inl (by omega)
  obtain ⟨s', e1, e2, e3, e4, e5⟩ := step
  have hs' : s' = 0 ∨ ∃ k, getI m s' = some k := by
   rcases e2 with rfl | rfl
   ·exact .inr ⟨v, hn⟩
   ·exact hs
  obtain ⟨b, q1, q2, q3, q4, q5⟩ := pick_fold h0 r s' (fun p hp => hl p (by simp [hp])) hs'
  refine ⟨b, by simp only [foldB, e1]; exact q1, ?_, fun _ => q4 e3, fun _ => q4 e3, fun n' v' h k hk => ?_⟩
  ·rcases q2 with rfl | ⟨w, hw⟩
   ·rcases e2 with rfl | rfl
    ·exact .inr ⟨v, by simp⟩
    ·exact .inl rfl
   ·exact .inr ⟨w, by simp [hw]⟩
  ·-- the chosen one against n', v'
   obtain ⟨ks, hks⟩ := hs'.resolve_left e3
   have hbs := q5 s' ks (.inr ⟨rfl, e3, hks⟩) k hk
   rcases h with h | ⟨rfl, hn0, h⟩
   ·rcases List.mem_cons.1 h with h | h
    ·simp only [Prod.mk.injEq] at h
     obtain ⟨rfl, rfl⟩ := h
     have := e4 ks hks
     omega
    ·exact q5 n' v' (.inl h) k hk
   ·have := e5 hn0 v' h ks hks
    omega
theorem least_ok {m : List (Int × Int)} (hK : KN m) (h0 : ∀ n v, getI m n = some v → n ≠ 0) (hne : m ≠ []) :
  ∃ b k, getI m b = some k ∧ (∀ n v, getI m n = some v → k < v ∨ (k = v ∧ b ≤ n)) ∧ forMap m (pickB m) 0 = some b := by
 have all : ∀ l' : List (Int × Int), l'.Perm m → ∃ b k, foldB (pickB m) l' 0 = some b ∧ getI m b = some k ∧ ∀ n v, getI m n = some v → k < v ∨ (k = v ∧ b ≤ n) := fun l' hl => by
  obtain ⟨b, q1, q2, q3, q4, q5⟩ := pick_fold h0 l' 0 (fun p hp => mem_getI hK (hl.mem_iff.1 hp)) (.inl rfl)
  have hb := q3 fun e => hne (by rw [e] at hl; exact hl.symm.eq_nil)
  rcases q2 with rfl | ⟨k, hk⟩
  ·exact absurd rfl hb
  ·have hg := mem_getI hK (hl.mem_iff.1 hk)
   exact ⟨b, k, q1, hg, fun n v hv => q5 n v (.inl (hl.mem_iff.2 (getI_mem hv))) k hg⟩
 obtain ⟨b, k, h1, h2, h3⟩ := all m (List.Perm.refl m)
 refine ⟨b, k, h2, h3, forMap_eq fun l' hl => ?_⟩
 obtain ⟨b', k', g1, g2, g3⟩ := all l' hl
 have e1 := h3 b' k' g2
 have e2 := g3 b k h2
 have : b' = b := by omega
 rw [g1, this]
/-! ## the search -/
structure Gph (links : List (Int × List GShortest_step)) (V : List Int) (c : Cst) : Prop where
 keys : ∀ x, (getI links x).isSome = true ↔ x ∈ V
 len : links.length = V.length
 nd : V.Nodup
 small : V.length ≤ 24
 nz : ∀ x ∈ V, x ≠ 0
 row : ∀ x y k, (∃ s ∈ (getI links x).getD [], s.to_ = y ∧ s.cost_ = k) ↔ c x y = some k
 cs : ∀ x y k, c x y = some k → 1 ≤ k ∧ k ≤ 1000
 inV : ∀ x y k, c x y = some k → y ∈ V
structure Dj (V : List Int) (c : Cst) (a : Int) (out opn : List (Int × Int)) : Prop where
 ko : KN out
 kp : KN opn
 oV : ∀ x k, getI out x = some k → x ∈ V ∧ dst c a x = some k ∧ k ≤ 1000 * (out.length : Int)
 pV : ∀ x k, getI opn x = some k → x ∈ V ∧ getI out x = none ∧ Wk c a x k ∧ k ≤ 1000 * (out.length : Int)
 cl : ∀ x k y w, getI out x = some k → c x y = some w → (getI out y).isSome = true ∨ ∃ m, getI opn y = some m ∧ m ≤ k + w
 st : (getI out a).isSome = true ∨ ∃ k, getI opn a = some k ∧ k ≤ 0
theorem Gph.pos {links : List (Int × List GShortest_step)} {V : List Int} {c : Cst} (h : Gph links V c) : Pos c := fun x y k hk => (h.cs x y k hk).1
/-- a walk ends within, or passes what is open -/
theorem Dj.front {V : List Int} {c : Cst} {a : Int} {out opn : List (Int × Int)} (hc : Pos c) (h : Dj V c a out opn) {z m : Int} (hw : Wk c a z m) : (getI out z).isSome = true ∨ ∃ y k, getI opn y = some k ∧ k ≤ m := by
 induction hw with
 | nil =>
  rcases h.st with q | ⟨k, q1, q2⟩
  ·exact .inl q
  ·exact .inr ⟨a, k, q1, q2⟩
 | @snoc x b m k hx hk ih =>
  have := hc _ _ _ hk
  rcases ih with q | ⟨y, k', q1, q2⟩
  ·obtain ⟨d, hd⟩ := Option.isSome_iff_exists.1 q
   have hle := (dst_some.1 (h.oV x d hd).2.1).2 _ hx
   rcases h.cl x d b k hd hk with q | ⟨m', q1, q2⟩
   ·exact .inl q
   ·exact .inr ⟨b, m', q1, by omega⟩
  ·exact .inr ⟨y, k', q1, by omega⟩
theorem Dj.done {V : List Int} {c : Cst} {a : Int} {out opn : List (Int × Int)} (hc : Pos c) (h : Dj V c a out opn) (hin : ∀ z m, Wk c a z m → (getI out z).isSome = true) (x : Int) : getI out x = dst c a x := by
 cases hd : dst c a x with
 | some k =>
  obtain ⟨k', hk'⟩ := Option.isSome_iff_exists.1 (hin x k (dst_some.1 hd).1)
  have := (h.oV x k' hk').2.1
  rw [hd] at this; cases this; exact hk'
 | none =>
  cases ho : getI out x with
  | none => rfl
  | some k => have := (h.oV x k ho).2.1; rw [hd] at this; cases this
theorem w64_sm {n : Int} (h0 : -1000000 ≤ n) (h1 : n ≤ 4000000000) : w64 n = n := by unfold w64; rw [IntKind.wrap_i64]; omega
theorem dijk {links : List (Int × List GShortest_step)} {V : List Int} {c : Cst} (h : Gph links V c) {a : Int} (ha : a ∈ V) :
  Ok (m_shortest_distances links a) (fun l => KN l ∧ (∀ x, getI l x = dst c a x) ∧ ∀ x k, dst c a x = some k → 0 ≤ k ∧ k ≤ 24000) := by
 have hc := h.pos
 have fin : ∀ out opn, Dj V c a out opn → (∀ z m, Wk c a z m → (getI out z).isSome = true) → KN out ∧ (∀ x, getI out x = dst c a x) ∧ ∀ x k, dst c a x = some k → 0 ≤ k ∧ k ≤ 24000 := fun out opn hD hin => by
  have hd := hD.done hc hin
  refine ⟨hD.ko, hd, fun x k hk => ⟨dst_nonneg hc hk, ?_⟩⟩
  rw [← hd x] at hk
  have h1 := (hD.oV x k hk).2.2
  have h2 := hD.ko.len (V := V) fun n v hv => (hD.oV n v hv).1
  have := h.small
  omega
 unfold m_shortest_distances
 rw [show (getI links a).isSome = true from (h.keys a).2 ha]
 simp only [Bool.not_true, cond_false]
 refine Ok.jn (fun s => KN s.1 ∧ (∀ x, getI s.1 x = dst c a x) ∧ ∀ x k, dst c a x = some k → 0 ≤ k ∧ k ≤ 24000) (fun s hs => .s hs) fun J hJ => ?_
 refine Ok.whl (fun s => Dj V c a s.1 s.2) (fun s => V.length + 1 - s.1.length) ?_ (by have := h.small; omega) ?_
 ·refine ⟨List.nodup_nil, by simp [KN, setI], fun x k hk => by simp [getI] at hk, fun x k hk => ?_, fun x k y w hk => by simp [getI] at hk, .inr ⟨0, by rw [getI_set, if_pos rfl], Int.le_refl _⟩⟩
  rw [getI_set] at hk
  split at hk
  ·rename_i e; subst e; cases hk; exact ⟨ha, rfl, .nil, by simp⟩
  ·simp [getI] at hk
 rintro ⟨out, opn⟩ Z hD hZ
 simp only at hD hZ ⊢
 refine Ok.cs (fun h1 => ?_) fun h1 => ?_
 ·have hne : opn ≠ [] := fun e => by simp [e] at h1
  have h0 : ∀ n v, getI opn n = some v → n ≠ 0 := fun n v hv => h.nz n (hD.pV n v hv).1
  obtain ⟨b, k, hb, hmin, hpk⟩ := least_ok hD.kp h0 hne
  refine Ok.bnd (P := fun x => x = b) ⟨b, hpk, rfl⟩ fun x hx => ?_
  subst hx
  simp only [hb, Option.getD_some]
  obtain ⟨bV, bo, bw, bk⟩ := hD.pV x k hb
  have bd : dst c a x = some k := dst_some.2 ⟨bw, fun m hm => by
   rcases hD.front hc hm with q | ⟨y, k', q1, q2⟩
   ·rw [bo] at q; cases q
   ·have := hmin y k' q1; omega⟩
  have hlen : (setI out x k).length = out.length + 1 := setI_len bo
  have ko2 : KN (setI out x k) := setI_KN hD.ko
  have k0 := bw.nonneg hc
  -- what is done holds
  have oV2 : ∀ y d, getI (setI out x k) y = some d → y ∈ V ∧ dst c a y = some d ∧ d ≤ 1000 * ((setI out x k).length : Int) := fun y d hy => by
   rw [getI_set] at hy
   rw [hlen]
   split at hy
   ·rename_i e; subst e; cases hy; exact ⟨bV, bd, by omega⟩
   ·obtain ⟨q1, q2, q3⟩ := hD.oV y d hy
    exact ⟨q1, q2, by omega⟩
  have olen : (setI out x k).length ≤ V.length := ko2.len fun n v hv => (oV2 n v hv).1
  have outs : ∀ y, (getI out y).isSome = true → (getI (setI out x k) y).isSome = true := fun y hy => by
   rw [getI_set]; split
   ·rfl
   ·exact hy
  refine Ok.cs (fun h2 => hJ _ ?_) fun h2 => ?_
  ·-- all are found
   have h2 : (setI out x k).length = links.length := by have := of_decide_eq_true h2; omega
   have hin : ∀ z ∈ V, (getI (setI out x k) z).isSome = true := fun z hz => ko2.all h.nd (fun n v hv => (oV2 n v hv).1) (by rw [h2, h.len]; exact Nat.le_refl _) hz
   have wV : ∀ z m, Wk c a z m → z ∈ V := fun z m hw => by
    cases hw with
    | nil => exact ha
    | snoc _ hk => exact h.inV _ _ _ hk
   refine fin _ [] ⟨ko2, List.nodup_nil, oV2, fun y d hy => by simp [getI] at hy, fun y d z w hy hw => .inl (hin z (h.inV _ _ _ hw)), .inl (hin a ha)⟩ fun z m hw => hin z (wV z m hw)
  ·refine Ok.forL (L := (getI links x).getD []) (fun p m => KN m ∧ (∀ y d, getI m y = some d → y ∈ V ∧ getI (setI out x k) y = none ∧ Wk c a y d ∧ d ≤ 1000 * ((setI out x k).length : Int)) ∧ (∀ y d, y ≠ x → getI opn y = some d → ∃ d', getI m y = some d' ∧ d' ≤ d) ∧
    ∀ s ∈ p, (getI (setI out x k) s.to_).isSome = true ∨ ∃ d', getI m s.to_ = some d' ∧ d' ≤ k + s.cost_) ?_ _ ?_ ?_
   ·rintro p s r m Z2 hL ⟨i1, i2, i3, i4⟩ hZ2
    have hs : s ∈ (getI links x).getD [] := by rw [hL]; simp
    have hcs := (h.row x s.to_ s.cost_).1 ⟨s, hs, rfl, rfl⟩
    obtain ⟨c1, c2⟩ := h.cs _ _ _ hcs
    have hw : w64 (k + s.cost_) = k + s.cost_ := w64_sm (by omega) (by have := h.small; omega)
    refine Ok.jn (fun m' => KN m' ∧ (∀ y d, getI m' y = some d → y ∈ V ∧ getI (setI out x k) y = none ∧ Wk c a y d ∧ d ≤ 1000 * ((setI out x k).length : Int)) ∧ (∀ y d, y ≠ x → getI opn y = some d → ∃ d', getI m' y = some d' ∧ d' ≤ d) ∧
     ∀ s' ∈ p ++ [s], (getI (setI out x k) s'.to_).isSome = true ∨ ∃ d', getI m' s'.to_ = some d' ∧ d' ≤ k + s'.cost_) (fun m' hm' => hZ2 m' hm') fun J2 hJ2 => ?_
    refine Ok.cs (fun g1 => hJ2 m ⟨i1, i2, i3, fun s' hs' => ?_⟩) fun g1 => Ok.cs (fun g2 => hJ2 _ ?_) fun g2 => hJ2 m ⟨i1, i2, i3, fun s' hs' => ?_⟩
    ·rcases List.mem_append.1 hs' with hs' | hs'
     ·exact i4 s' hs'
     ·rw [List.mem_singleton.1 hs']; exact .inl g1
    ·-- a better way
     rw [hw]
     rw [hw] at g2
     refine ⟨setI_KN i1, fun y d hy => ?_, fun y d hyx hy => ?_, fun s' hs' => ?_⟩
     ·rw [getI_set] at hy
      split at hy
      ·rename_i e; subst e; cases hy
       refine ⟨h.inV _ _ _ hcs, by simpa using g1, .snoc bw hcs, by rw [hlen]; omega⟩
      ·exact i2 y d hy
     ·obtain ⟨d', q1, q2⟩ := i3 y d hyx hy
      rw [getI_set]
      by_cases e : y = s.to_
      ·rw [if_pos e]
       refine ⟨_, rfl, ?_⟩
       subst e
       rw [q1] at g2
       simp at g2
       omega
      ·rw [if_neg e]; exact ⟨d', q1, q2⟩
     ·rw [getI_set m]
      by_cases e : s'.to_ = s.to_
      ·rcases List.mem_append.1 hs' with hs' | hs'
       ·rcases i4 s' hs' with q | ⟨d', q1, q2⟩
        ·exact .inl q
        ·right
         rw [if_pos e]
         refine ⟨_, rfl, ?_⟩
         rw [e] at q1
         rw [q1] at g2
         simp at g2
         omega
       ·rw [List.mem_singleton.1 hs', if_pos rfl]; exact .inr ⟨_, rfl, Int.le_refl _⟩
      ·rw [if_neg e]
       rcases List.mem_append.1 hs' with hs' | hs'
       ·exact i4 s' hs'
       ·exact absurd (by rw [List.mem_singleton.1 hs']) e
    ·rcases List.mem_append.1 hs' with hs' | hs'
     ·exact i4 s' hs'
     ·rw [List.mem_singleton.1 hs']
      right
      rw [hw] at g2
      simp only [Bool.or_eq_false_iff, Bool.not_eq_false', decide_eq_false_iff_not] at g2
      obtain ⟨d', hd'⟩ := Option.isSome_iff_exists.1 g2.1
      refine ⟨d', hd', ?_⟩
      have := g2.2
      rw [hd'] at this
      simp at this
      omega
   ·refine ⟨delI_KN hD.kp, fun y d hy => ?_, fun y d hyx hy => ⟨d, by rw [getI_del hD.kp, if_neg hyx]; exact hy, Int.le_refl _⟩, fun s hs => by simp at hs⟩
    rw [getI_del hD.kp] at hy
    split at hy
    ·cases hy
    ·rename_i e
     obtain ⟨q1, q2, q3, q4⟩ := hD.pV y d hy
     exact ⟨q1, by rw [getI_set, if_neg e]; exact q2, q3, by rw [hlen]; omega⟩
   ·rintro m ⟨i1, i2, i3, i4⟩
    refine hZ _ ⟨ko2, i1, oV2, i2, fun y d z w hy hw => ?_, ?_⟩ (by simp only [hlen]; omega)
    ·rw [getI_set] at hy
     split at hy
     ·rename_i e; subst e; cases hy
      obtain ⟨s, hs, rfl, rfl⟩ := (h.row _ _ _).2 hw
      exact i4 s hs
     ·rcases hD.cl y d z w hy hw with q | ⟨m', q1, q2⟩
      ·exact .inl (outs z q)
      ·by_cases e : z = x
       ·left; rw [getI_set, if_pos e]; rfl
       ·obtain ⟨d', r1, r2⟩ := i3 z m' e q1
        exact .inr ⟨d', r1, by omega⟩
    ·rcases hD.st with q | ⟨k', q1, q2⟩
     ·exact .inl (outs a q)
     ·by_cases e : a = x
      ·left; rw [getI_set, if_pos e]; rfl
      ·obtain ⟨d', r1, r2⟩ := i3 a k' e q1
       exact .inr ⟨d', r1, by omega⟩
 ·-- nothing is open
  have he : opn = [] := by
   have := of_decide_eq_false h1
   exact List.eq_nil_of_length_eq_zero (by omega)
  subst he
  refine hJ _ (fin _ _ hD fun z m hw => ?_)
  rcases hD.front hc hw with q | ⟨y, k, q, _⟩
  ·exact q
  ·simp [getI] at q
theorem dijk_no {links : List (Int × List GShortest_step)} {a : Int} (ha : (getI links a).isSome = false) : m_shortest_distances links a = some [] := by
 unfold m_shortest_distances
 rw [ha]; rfl
end Go.Proofs.Ytflifgcoleknlaa

/- The graph that the program reads out of a topology. No condition but those that stand in each. -/
namespace Go.Proofs.Ytflifgcoleknlaa
set_option linter.all false
open Go
theorem isortF_ascS {α : Type} {cf : α → α → Int} (ht : ∀ a b c, cf a b < 0 → cf b c < 0 → cf a c < 0) : ∀ {l : List α}, (l.Pairwise fun a b => cf a b < 0 ∨ cf b a < 0) → (isortF cf l).Pairwise fun a b => cf a b < 0
 | [], _ => List.Pairwise.nil
 | x :: r, h => by
  rw [List.pairwise_cons] at h
  have ih := isortF_ascS ht h.2
  have hx : ∀ y ∈ isortF cf r, cf x y < 0 ∨ cf y x < 0 := fun y hy => h.1 y ((isortF_perm cf r).mem_iff.1 hy)
  simp only [isortF]
  generalize isortF cf r = m at ih hx
  clear h
  induction m with
  | nil => simp [insF]
  | cons y m ih2 =>
   rw [List.pairwise_cons] at ih
   simp only [insF]
   split
   ·rename_i hyx
    rw [List.pairwise_cons]
    refine ⟨fun z hz => ?_, ih2 ih.2 fun z hz => hx z (by simp [hz])⟩
    rcases List.mem_cons.1 ((insF_perm cf x m).mem_iff.1 hz) with rfl | hz
    ·exact hyx
    ·exact ih.1 z hz
   ·rename_i hyx
    have hxy := (hx y (by simp)).resolve_right hyx
    rw [List.pairwise_cons]
    refine ⟨fun z hz => ?_, List.pairwise_cons.2 ih⟩
    rcases List.mem_cons.1 hz with rfl | hz
    ·exact hxy
    ·exact ht _ _ _ hxy (ih.1 z hz)
theorem asc_ascF' {α : Type} {cf : α → α → Int} : ∀ {l : List α}, (l.Pairwise fun a b => cf a b < 0) → ascF cf l = true
 | [], _ => rfl
 | [x], _ => rfl
 | a :: b :: r, h => by
  rw [List.pairwise_cons] at h
  simp only [ascF, Bool.and_eq_true, decide_eq_true_eq]
  exact ⟨h.1 b (by simp), asc_ascF' h.2⟩
theorem sorted_ext {α : Type} (f : α → Int) {a b : List α} (ha : a.Pairwise fun x y => f x < f y) (hb : b.Pairwise fun x y => f x < f y) (h : ∀ x, x ∈ a ↔ x ∈ b) : a = b := by
 induction a generalizing b with
 | nil =>
  cases b with
  | nil => rfl
  | cons y b => exact absurd ((h y).2 (by simp)) (by simp)
 | cons x a ih =>
  cases b with
  | nil => exact absurd ((h x).1 (by simp)) (by simp)
  | cons y b =>
   rw [List.pairwise_cons] at ha hb
   have hxy : x = y := by
    have h1 := (h x).1 (by simp)
    have h2 := (h y).2 (by simp)
    rw [List.mem_cons] at h1 h2
    rcases h1 with h1 | h1
    ·exact h1
    ·rcases h2 with h2 | h2
     ·exact h2.symm
     ·have := hb.1 _ h1; have := ha.1 _ h2; omega
   subst hxy
   congr 1
   refine ih ha.2 hb.2 fun z => ?_
   have := h z
   simp only [List.mem_cons] at this
   constructor
   ·intro hz
    rcases this.1 (.inr hz) with q | q
    ·subst q; have := ha.1 _ hz; omega
    ·exact q
   ·intro hz
    rcases this.2 (.inr hz) with q | q
    ·subst q; have := hb.1 _ hz; omega
    ·exact q
theorem KN.ext {α : Type} : ∀ {l m : List (Int × α)}, KN l → l.map (·.1) = m.map (·.1) → (∀ x, getI l x = getI m x) → l = m
 | [], m, _, hk, _ => by
  cases m with
  | nil => rfl
  | cons q m => simp at hk
 | (n, v) :: l, [], _, hk, _ => by simp at hk
 | (n, v) :: l, (n', v') :: m, hn, hk, h => by
  simp only [List.map_cons, List.cons.injEq] at hk
  obtain ⟨rfl, hk⟩ := hk
  simp only [KN, List.map_cons, List.nodup_cons] at hn
  have h1 := h n
  rw [getI_cons, getI_cons, if_pos rfl, if_pos rfl] at h1
  cases h1
  congr 1
  refine KN.ext hn.2 hk fun x => ?_
  have h2 := h x
  rw [getI_cons, getI_cons] at h2
  by_cases hx : n = x
  ·subst hx
   have e1 : getI l n = none := by
    cases hg : getI l n with
    | none => rfl
    | some a => exact absurd (getI_key.1 (by rw [hg]; rfl)) hn.1
   have e2 : getI m n = none := by
    cases hg : getI m n with
    | none => rfl
    | some a => exact absurd (by rw [hk]; exact getI_key.1 (by rw [hg]; rfl)) hn.1
   rw [e1, e2]
  ·rwa [if_neg hx, if_neg hx] at h2
/-! ## the rows -/
def outS (x : Int) (l : GLink) : Option GShortest_step := if l.A = x then some ⟨l.B, l.CostA⟩ else if l.B = x then some ⟨l.A, l.CostB⟩ else none
def inS (x : Int) (l : GLink) : Option GShortest_step := if l.B = x then some ⟨l.A, l.CostA⟩ else if l.A = x then some ⟨l.B, l.CostB⟩ else none
theorem outS_row {t : GTopology} (hv : Vt t) (x y k : Int) : (∃ s ∈ t.Links.filterMap (outS x), s.to_ = y ∧ s.cost_ = k) ↔ lkC t x y = some k := by
 rw [lkC_some]
 constructor
 ·rintro ⟨s, hs, rfl, rfl⟩
  obtain ⟨l, hl, he⟩ := List.mem_filterMap.1 hs
  have hlt := hv.lt l hl
  unfold outS at he
  split at he
  ·rename_i hA; cases he
   have h1 : eitherB l x l.B = true := by simp [eitherB, hA]
   refine ⟨adj_iff.2 ⟨l, hl, .inl ⟨hA, rfl⟩⟩, ?_⟩
   rw [price_eq hv hl h1]; simp [priceOf, hA]
  ·split at he
   ·rename_i hA hB; cases he
    have h1 : eitherB l x l.A = true := by simp [eitherB, hB]
    refine ⟨adj_iff.2 ⟨l, hl, .inr ⟨hB, rfl⟩⟩, ?_⟩
    rw [price_eq hv hl h1]; simp [priceOf, hA]
   ·cases he
 ·rintro ⟨h1, rfl⟩
  obtain ⟨l, hl, he⟩ := adj_iff.1 h1
  have hlt := hv.lt l hl
  rcases he with ⟨rfl, rfl⟩ | ⟨rfl, rfl⟩
  ·refine ⟨⟨l.B, l.CostA⟩, List.mem_filterMap.2 ⟨l, hl, by simp [outS]⟩, rfl, ?_⟩
   rw [price_eq hv hl (by simp [eitherB])]; simp [priceOf]
  ·refine ⟨⟨l.A, l.CostB⟩, List.mem_filterMap.2 ⟨l, hl, by have : l.A ≠ l.B := by omega
                                                           simp [outS, this]⟩, rfl, ?_⟩
   have : l.A ≠ l.B := by omega
   rw [price_eq hv hl (by simp [eitherB])]; simp [priceOf, this]
theorem inS_row {t : GTopology} (hv : Vt t) (x y k : Int) : (∃ s ∈ t.Links.filterMap (inS x), s.to_ = y ∧ s.cost_ = k) ↔ revC (lkC t) x y = some k := by
 show _ ↔ lkC t y x = some k
 rw [lkC_some]
 constructor
 ·rintro ⟨s, hs, rfl, rfl⟩
  obtain ⟨l, hl, he⟩ := List.mem_filterMap.1 hs
  have hlt := hv.lt l hl
  unfold inS at he
  split at he
  ·rename_i hB; cases he
   have h1 : eitherB l l.A x = true := by simp [eitherB, hB]
   refine ⟨adj_iff.2 ⟨l, hl, .inl ⟨rfl, hB⟩⟩, ?_⟩
   rw [price_eq hv hl h1]; simp [priceOf, hB]
  ·split at he
   ·rename_i hB hA; cases he
    have h1 : eitherB l l.B x = true := by simp [eitherB, hA]
    refine ⟨adj_iff.2 ⟨l, hl, .inr ⟨rfl, hA⟩⟩, ?_⟩
    have : ¬ l.A = l.B := by omega
    rw [price_eq hv hl h1]; simp [priceOf, this]
   ·cases he
 ·rintro ⟨h1, rfl⟩
  obtain ⟨l, hl, he⟩ := adj_iff.1 h1
  have hlt := hv.lt l hl
  rcases he with ⟨rfl, rfl⟩ | ⟨rfl, rfl⟩
  ·refine ⟨⟨l.A, l.CostA⟩, List.mem_filterMap.2 ⟨l, hl, by simp [inS]⟩, rfl, ?_⟩
   rw [price_eq hv hl (by simp [eitherB])]; simp [priceOf]
  ·refine ⟨⟨l.B, l.CostB⟩, List.mem_filterMap.2 ⟨l, hl, by have : l.B ≠ l.A := by omega
                                                           simp [inS, this]⟩, rfl, ?_⟩
   have : l.A ≠ l.B := by omega
   rw [price_eq hv hl (by simp [eitherB])]; simp [priceOf, this]
/-- the steps of a router, as the chapter orders them -/
def rowT (t : GTopology) (x : Int) : List GShortest_step := (nearL t x).map fun y => ⟨y, (priceT t x y).1⟩
theorem rowT_mem {t : GTopology} (hv : Vt t) {x : Int} {s : GShortest_step} : s ∈ rowT t x ↔ lkC t x s.to_ = some s.cost_ := by
 rw [lkC_some]
 simp only [rowT, List.mem_map, nearL_mem hv]
 constructor
 ·rintro ⟨y, h, rfl⟩; exact ⟨h, rfl⟩
 ·rintro ⟨h1, h2⟩; exact ⟨s.to_, h1, by rw [h2]⟩
theorem rowT_asc {t : GTopology} (hv : Vt t) (x : Int) : (rowT t x).Pairwise fun a b => a.to_ < b.to_ := List.pairwise_map.2 (nearL_lt hv x)
abbrev lexS : GShortest_step → GShortest_step → Int := lexK [fun x : GShortest_step => x.to_]
theorem lexS_lt (a b : GShortest_step) : lexS a b < 0 ↔ a.to_ < b.to_ := by rw [lexS, lexK_cons]; simp [lexK]
theorem outS_ne {t : GTopology} (hv : Vt t) (x : Int) : (t.Links.filterMap (outS x)).Pairwise fun a b => lexS a b < 0 ∨ lexS b a < 0 := by
 have hnd := other_nodup hv x
 have he : t.Links.filterMap (otherE x) = (t.Links.filterMap (outS x)).map (·.to_) := by
  rw [List.map_filterMap]
  congr 1
  funext l
  unfold otherE outS
  by_cases h1 : l.A = x
  ·rw [if_pos h1.symm, if_pos h1]; rfl
  ·rw [if_neg (fun e => h1 e.symm), if_neg h1]
   by_cases h2 : l.B = x
   ·rw [if_pos h2.symm, if_pos h2]; rfl
   ·rw [if_neg (fun e => h2 e.symm), if_neg h2]; rfl
 rw [he] at hnd
 refine (List.pairwise_map.1 hnd).imp fun {a b} hab => ?_
 rw [lexS_lt, lexS_lt]
 omega
theorem sort_row {t : GTopology} (hv : Vt t) (x : Int) : sortM lexS (t.Links.filterMap (outS x)) = some (rowT t x) := by
 have h1 := isortF_ascS (lexK_trans _) (outS_ne hv x)
 have e : isortF lexS (t.Links.filterMap (outS x)) = rowT t x := by
  refine sorted_ext (·.to_) (h1.imp fun {a b} h => (lexS_lt a b).1 h) (rowT_asc hv x) fun s => ?_
  rw [(isortF_perm _ _).mem_iff, rowT_mem hv]
  constructor
  ·intro hs; exact (outS_row hv x s.to_ s.cost_).1 ⟨s, hs, rfl, rfl⟩
  ·intro hs
   obtain ⟨s', h2, h3, h4⟩ := (outS_row hv x s.to_ s.cost_).2 hs
   obtain ⟨a, b⟩ := s; obtain ⟨a', b'⟩ := s'
   simp only at h3 h4; subst h3 h4; exact h2
 have hl : (t.Links.filterMap (outS x)).length ≤ 60 := Nat.le_trans (List.length_filterMap_le _ _) hv.nl
 have : (decide ((t.Links.filterMap (outS x)).length < 4611686018427387904)) = true := by simp; omega
 unfold sortM
 rw [asc_ascF' h1, this, e]; rfl
/-- rows set in order, one by one: whatever the order -/
theorem sort_fold {srt : List GShortest_step → List GShortest_step} : ∀ (l s : List (Int × List GShortest_step)), KN l → (∀ p ∈ l, ∃ row, getI s p.1 = some row ∧ sortM lexS row = some (srt row)) →
  ∃ s', foldB (fun (n_1 : Int) (_ : List GShortest_step) (m_5 : List (Int × List GShortest_step)) => chk (getI m_5 n_1).isSome (bnd (sortM lexS ((getI m_5 n_1).getD [])) fun (l_5 : List GShortest_step) => some (setI m_5 n_1 l_5))) l s = some s' ∧
   s'.map (·.1) = s.map (·.1) ∧ ∀ x, getI s' x = if x ∈ l.map (·.1) then (getI s x).map srt else getI s x
 | [], s, _, _ => ⟨s, rfl, rfl, fun x => by simp⟩
 | (n, v) :: l, s, hk, h => by
  simp only [KN, List.map_cons, List.nodup_cons] at hk
  obtain ⟨row, h1, h2⟩ := h (n, v) (by simp)
  obtain ⟨s', q1, q2, q3⟩ := sort_fold (srt := srt) l (setI s n (srt row)) hk.2 fun p hp => by
   obtain ⟨r', h3, h4⟩ := h p (by simp [hp])
   have : p.1 ≠ n := fun e => hk.1 (by rw [← e]; exact List.mem_map.2 ⟨p, hp, rfl⟩)
   exact ⟨r', by rw [getI_set, if_neg this]; exact h3, h4⟩
  refine ⟨s', ?_, q2.trans (setI_keys _ (by rw [h1]; rfl)), fun x => ?_⟩
  ·simp only [foldB, h1, Option.isSome_some, Option.getD_some, h2]
   exact q1
  ·rw [q3, getI_set]
   simp only [List.map_cons, List.mem_cons]
   by_cases hx : x = n
   ·subst hx
    rw [if_neg hk.1, if_pos rfl, if_pos (.inl rfl), h1]; rfl
   ·rw [if_neg hx]
    by_cases hm : x ∈ l.map (·.1)
    ·rw [if_pos hm, if_pos (.inr hm)]
    ·rw [if_neg hm, if_neg (fun e => e.elim hx hm)]
structure RdT (t : GTopology) (g : GShortest_graph) : Prop where
 fw : Gph g.out_ (ids t) (lkC t)
 bw : Gph g.in_ (ids t) (revC (lkC t))
 row : ∀ x ∈ ids t, getI g.out_ x = some (rowT t x)
theorem gph_of {t : GTopology} (hv : Vt t) {links : List (Int × List GShortest_step)} {c : Cst} {f : Int → List GShortest_step} (hk : KN links) (hg : ∀ x, getI links x = if x ∈ ids t then some (f x) else none)
  (hr : ∀ x y k, (∃ s ∈ f x, s.to_ = y ∧ s.cost_ = k) ↔ c x y = some k) (hc : ∀ x y k, c x y = some k → (1 ≤ k ∧ k ≤ 1000) ∧ x ∈ ids t ∧ y ∈ ids t) : Gph links (ids t) c where
 keys := fun x => by rw [hg]; by_cases h : x ∈ ids t <;> simp [h]
 len := by
  have hn : (ids t).Nodup := (ids_lt hv).imp fun h => Int.ne_of_lt h
  have h1 := hk.len (V := ids t) fun n v h => by
   rw [hg] at h
   split at h
   ·assumption
   ·cases h
  have h2 := nodup_len hn (b := links.map (·.1)) fun x hx => getI_key.1 (by rw [hg, if_pos hx]; rfl)
  rw [List.length_map] at h2
  omega
 nd := (ids_lt hv).imp fun h => Int.ne_of_lt h
 small := ids_len hv
 nz := fun x hx => by
  obtain ⟨r, h1, rfl⟩ := List.mem_map.1 hx
  have := (hv.idr r h1).1; omega
 row := fun x y k => by
  rw [hg]
  by_cases h : x ∈ ids t
  ·rw [if_pos h]; exact hr x y k
  ·rw [if_neg h]
   constructor
   ·rintro ⟨s, hs, _⟩; simp at hs
   ·intro he; exact absurd (hc x y k he).2.1 h
 cs := fun x y k h => (hc x y k h).1
 inV := fun x y k h => (hc x y k h).2.2
theorem read_ok {t : GTopology} (hv : Vt t) : Ok (m_shortest_read t) (RdT t) := by
 unfold m_shortest_read
 have hab : ∀ l ∈ t.Links, l.A ∈ ids t ∧ l.B ∈ ids t ∧ l.A ≠ l.B := fun l hl => by
  have h1 := hv.ends l hl
  have h2 := hv.lt l hl
  exact ⟨ids_has.2 h1.1, ids_has.2 h1.2, by omega⟩
 refine Ok.forL (fun p s => (KN s.1 ∧ ∀ x, getI s.1 x = if x ∈ p.map (·.ID) then some [] else none) ∧ (KN s.2 ∧ ∀ x, getI s.2 x = if x ∈ p.map (·.ID) then some [] else none)) ?_ _ ?_ ?_
 ·rintro p e r ⟨m1, m2⟩ Z _ ⟨⟨h1, h2⟩, h3, h4⟩ hZ
  refine hZ _ ⟨⟨setI_KN h1, fun x => ?_⟩, setI_KN h3, fun x => ?_⟩
  ·rw [getI_set, h2]
   by_cases hx : x = e.ID <;> simp [hx]
  ·rw [getI_set, h4]
   by_cases hx : x = e.ID <;> simp [hx]
 ·exact ⟨⟨List.nodup_nil, fun x => by simp [getI]⟩, List.nodup_nil, fun x => by simp [getI]⟩
 rintro ⟨m1, m2⟩ ⟨⟨h1, h2⟩, h3, h4⟩
 simp only at h1 h2 h3 h4 ⊢
 refine Ok.forL (fun p s => (KN s.1 ∧ ∀ x, getI s.1 x = if x ∈ ids t then some (p.filterMap (outS x)) else none) ∧ (KN s.2 ∧ ∀ x, getI s.2 x = if x ∈ ids t then some (p.filterMap (inS x)) else none)) ?_ _ ⟨⟨h1, fun x => by rw [h2]; rfl⟩, h3, fun x => by rw [h4]; rfl⟩ ?_
 ·rintro p e r ⟨m3, m4⟩ Z hL ⟨⟨g1, g2⟩, g3, g4⟩ hZ
  simp only at g1 g2 g3 g4 ⊢
  obtain ⟨a1, a2, a3⟩ := hab e (by rw [hL]; simp)
  have hp : p.length ≤ 60 := by have := hv.nl; rw [hL] at this; simp at this; omega
  have hf : ∀ (f : GLink → Option GShortest_step), (p.filterMap f).length ≤ 60 := fun f => Nat.le_trans (List.length_filterMap_le _ _) hp
  have app : ∀ (f : GLink → Option GShortest_step) (s : GShortest_step), appO (p.filterMap f) [s] = some (p.filterMap f ++ [s]) := fun f s => appO_ok (by have := hf f; simp; omega)
  have e1 : (getI m3 e.A).getD [] = p.filterMap (outS e.A) := by rw [g2, if_pos a1]; rfl
  have e2 : ∀ l, (getI (setI m3 e.A l) e.B).getD [] = p.filterMap (outS e.B) := fun l => by rw [getI_set, if_neg (Ne.symm a3), g2, if_pos a2]; rfl
  have e3 : (getI m4 e.B).getD [] = p.filterMap (inS e.B) := by rw [g4, if_pos a2]; rfl
  have e4 : ∀ l, (getI (setI m4 e.B l) e.A).getD [] = p.filterMap (inS e.A) := fun l => by rw [getI_set, if_neg a3, g4, if_pos a1]; rfl
  rw [e1, app, bnd_s, e2, app, bnd_s, e3, app, bnd_s, e4, app, bnd_s]
  refine hZ _ ⟨⟨setI_KN (setI_KN g1), fun x => ?_⟩, setI_KN (setI_KN g3), fun x => ?_⟩
  ·rw [getI_set, getI_set, g2, List.filterMap_append]
   by_cases hB : x = e.B
   ·subst hB
    rw [if_pos rfl, if_pos a2]
    simp [outS, a3]
   ·rw [if_neg hB]
    by_cases hA : x = e.A
    ·subst hA
     rw [if_pos rfl, if_pos a1]
     simp [outS]
    ·rw [if_neg hA]
     have : outS x e = none := by simp [outS, Ne.symm hA, Ne.symm hB]
     simp [this]
  ·rw [getI_set, getI_set, g4, List.filterMap_append]
   by_cases hA : x = e.A
   ·subst hA
    rw [if_pos rfl, if_pos a1]
    simp [inS, Ne.symm a3]
   ·rw [if_neg hA]
    by_cases hB : x = e.B
    ·subst hB
     rw [if_pos rfl, if_pos a2]
     simp [inS]
    ·rw [if_neg hB]
     have : inS x e = none := by simp [inS, Ne.symm hA, Ne.symm hB]
     simp [this]
 rintro ⟨m3, m4⟩ ⟨⟨g1, g2⟩, g3, g4⟩
 simp only at g1 g2 g3 g4 ⊢
 -- the rows in order
 have srt : ∀ l' : List (Int × List GShortest_step), l'.Perm m3 → ∃ s', foldB (fun (n_1 : Int) (_ : List GShortest_step) (m_5 : List (Int × List GShortest_step)) => chk (getI m_5 n_1).isSome (bnd (sortM lexS ((getI m_5 n_1).getD [])) fun (l_5 : List GShortest_step) => some (setI m_5 n_1 l_5))) l' m3 = some s' ∧
   s'.map (·.1) = m3.map (·.1) ∧ ∀ x, getI s' x = if x ∈ ids t then some (rowT t x) else none := fun l' hl => by
  obtain ⟨s', q1, q2, q3⟩ := sort_fold (srt := fun row => (sortM lexS row).getD []) l' m3 ((hl.map _).nodup_iff.2 g1) fun p hp => by
   have hg := mem_getI g1 (hl.mem_iff.1 hp)
   have h5 := g2 p.1
   rw [hg] at h5
   split at h5
   ·have h5 := Option.some.inj h5
    exact ⟨_, hg, by rw [h5, sort_row hv]; rfl⟩
   ·cases h5
  refine ⟨s', q1, q2, fun x => ?_⟩
  rw [q3, g2]
  have hm : x ∈ l'.map (·.1) ↔ x ∈ ids t := by
   rw [(hl.map _).mem_iff, ← getI_key, g2]
   by_cases hx : x ∈ ids t <;> simp [hx]
  by_cases hx : x ∈ ids t
  ·rw [if_pos (hm.2 hx), if_pos hx, if_pos hx]
   simp [sort_row hv]
  ·rw [if_neg (fun h => hx (hm.1 h)), if_neg hx, if_neg hx]
 obtain ⟨R, r1, r2, r3⟩ := srt m3 (List.Perm.refl _)
 have hkR : KN R := by rw [KN, r2]; exact g1
 refine Ok.bnd (P := fun x => x = R) ⟨R, forMap_eq fun l' hl => ?_, rfl⟩ fun x hx => ?_
 ·obtain ⟨s', q1, q2, q3⟩ := srt l' hl
  rw [KN.ext hkR (r2.trans q2.symm) fun x => by rw [r3, q3]]
  exact q1
 subst hx
 refine .s ⟨gph_of hv hkR r3 (fun x y k => ?_) fun x y k h => ⟨lkC_le hv h, lkC_ids hv h⟩, gph_of hv g3 g4 (inS_row hv) fun x y k h => ⟨lkC_le hv h, (lkC_ids hv h).2, (lkC_ids hv h).1⟩, fun x hx => by rw [r3, if_pos hx]⟩
 constructor
 ·rintro ⟨s, hs, rfl, rfl⟩; exact (rowT_mem hv).1 hs
 ·intro h; exact ⟨⟨y, k⟩, (rowT_mem hv).2 h, rfl, rfl⟩
end Go.Proofs.Ytflifgcoleknlaa

/- What the document's rounds come to: the least costs. No condition but those that stand in each. -/
namespace Go.Proofs.Ytflifgcoleknlaa
set_option linter.all false
open Go
def plc (t : GTopology) (x : Int) : Nat := (ids t).idxOf x
theorem plc_lt {t : GTopology} {x : Int} (h : x ∈ ids t) : plc t x < t.Routers.length := by
 have := List.idxOf_lt_length_of_mem h
 simpa [ids, plc] using this
theorem plc_inj {t : GTopology} {x y : Int} (hx : x ∈ ids t) (hy : y ∈ ids t) (h : plc t x = plc t y) : x = y := by
 have h1 := List.getElem_idxOf (List.idxOf_lt_length_of_mem hx)
 have h2 := List.getElem_idxOf (List.idxOf_lt_length_of_mem hy)
 unfold plc at h
 rw [← h1, ← h2]
 simp only [h]
theorem find_at {β : Type} (x : Int) (g : Int → Option β) (a : Option β) : ∀ (l : List GRouter) (j : Nat), forI l j (fun (j1 : Int) (e1 : GRouter) (Z1 : Unit → Option β) (_ : Unit) => bif decide (e1.ID = x) then g j1 else Z1 ()) (fun _ => a) () =
  if x ∈ l.map (·.ID) then g ((j + (l.map (·.ID)).idxOf x : Nat) : Int) else a
 | [], j => by simp [forI]
 | r :: l, j => by
  show (bif decide (r.ID = x) then g (j : Int) else forI l (j + 1) (fun (j1 : Int) (e1 : GRouter) (Z1 : Unit → Option β) (_ : Unit) => bif decide (e1.ID = x) then g j1 else Z1 ()) (fun _ => a) ()) = _
  by_cases h : r.ID = x
  ·rw [decide_eq_true h, cond_true]; subst h; simp
  ·have := find_at x g a l (j + 1)
   rw [decide_eq_false h, cond_false, this]
   simp only [List.map_cons, List.mem_cons, Ne.symm h, false_or, List.idxOf_cons]
   have hb : (r.ID == x) = false := by simpa using h
   rw [hb]
   simp only [cond_false]
   rw [show j + 1 + List.idxOf x (List.map (fun x => x.ID) l) = j + (List.idxOf x (List.map (fun x => x.ID) l) + 1) by omega]
theorem ref_place {t : GTopology} {x : Int} (h : x ∈ ids t) : m_ref06_place t x = some (plc t x : Int) := by
 have := find_at x (fun j => some j) (some (0:Int)) t.Routers 0
 have h' : x ∈ t.Routers.map (·.ID) := h
 rw [if_pos h', Nat.zero_add] at this
 exact this
theorem ref_at (t : GTopology) (d : List Int) (x : Int) : m_ref06_At t d x = if x ∈ ids t then elO d (plc t x : Int) else some 1073741824 := by
 have := find_at x (fun j => bnd (elO d j) fun e => some e) (some 1073741824) t.Routers 0
 rw [Nat.zero_add] at this
 have e : ∀ o : Option Int, (bnd o fun e => some e) = o := fun o => by cases o <;> rfl
 unfold m_ref06_At
 refine Eq.trans this ?_
 rw [e]; rfl
/-- what stands for a router -/
def valT (t : GTopology) (d : List Int) (x : Int) : Int := d.getD (plc t x) 1073741824
theorem elO_val {t : GTopology} {d : List Int} (hd : d.length = t.Routers.length) {x : Int} (hx : x ∈ ids t) : elO d (plc t x : Int) = some (valT t d x) := by
 have h := plc_lt hx
 rw [← hd] at h
 unfold elO valT
 rw [if_pos (by omega)]
 simp [List.getD_eq_getElem?_getD, h]
theorem val_set {t : GTopology} {d : List Int} (hd : d.length = t.Routers.length) {x y v : Int} (hx : x ∈ ids t) (hy : y ∈ ids t) : valT t (d.set (plc t x) v) y = if y = x then v else valT t d y := by
 have h := plc_lt hx
 rw [← hd] at h
 unfold valT
 rw [List.getD_eq_getElem?_getD, List.getD_eq_getElem?_getD, List.getElem?_set]
 by_cases e : y = x
 ·subst e; simp [h]
 ·rw [if_neg (fun e' => e (plc_inj hy hx e'.symm)), if_neg e]
structure Bf (t : GTopology) (to : Int) (d : List Int) : Prop where
 len : d.length = t.Routers.length
 le : ∀ x ∈ ids t, valT t d x ≤ 1073741824
 wk : ∀ x ∈ ids t, valT t d x < 1073741824 → Wk (lkC t) x to (valT t d x)
 z : valT t d to ≤ 0
def relax (t : GTopology) (d : List Int) (x y w : Int) : List Int := if valT t d y < 1073741824 then d.set (plc t x) (if w + valT t d y < valT t d x then w + valT t d y else valT t d x) else d
theorem relax_run {t : GTopology} (hv : Vt t) {to : Int} {d : List Int} (hB : Bf t to d) {x y w : Int} (hx : x ∈ ids t) (hy : y ∈ ids t) (hw : 1 ≤ w ∧ w ≤ 1000) {β : Type} (J : List Int → Option β) :
  (bnd (elO d (plc t y : Int)) fun (e4 : Int) => bif decide (e4 < (1073741824:Int)) then bnd (elO d (plc t x : Int)) fun (e5 : Int) => bnd (setO d (plc t x : Int) (if (w64 (w + e4)) < e5 then w64 (w + e4) else e5)) fun (l3 : List Int) => J l3 else J d) = J (relax t d x y w) := by
 rw [elO_val hB.len hy, bnd_s]
 unfold relax
 by_cases h : valT t d y < 1073741824
 ·rw [if_pos h, show decide (valT t d y < 1073741824) = true from decide_eq_true h, cond_true, elO_val hB.len hx, bnd_s]
  have h0 := (hB.wk y hy h).nonneg (lkC_pos hv)
  rw [w64_sm (by omega) (by omega)]
  have hl := plc_lt hx
  have hlen := hB.len
  unfold setO
  rw [if_pos (by omega), bnd_s]
  simp
 ·rw [if_neg h, show decide (valT t d y < 1073741824) = false from decide_eq_false h, cond_false]
theorem relax_ok {t : GTopology} (hv : Vt t) {to : Int} (hto : to ∈ ids t) {d : List Int} (hB : Bf t to d) {x y w : Int} (hw : lkC t x y = some w) :
  Bf t to (relax t d x y w) ∧ (∀ z ∈ ids t, valT t (relax t d x y w) z ≤ valT t d z) ∧ (valT t d y < 1073741824 → valT t (relax t d x y w) x ≤ w + valT t d y) := by
 obtain ⟨hx, hy⟩ := lkC_ids hv hw
 unfold relax
 by_cases h : valT t d y < 1073741824
 ·rw [if_pos h]
  have hval : ∀ z ∈ ids t, valT t (d.set (plc t x) (if w + valT t d y < valT t d x then w + valT t d y else valT t d x)) z = if z = x then (if w + valT t d y < valT t d x then w + valT t d y else valT t d x) else valT t d z := fun z hz => val_set hB.len hx hz
  have hle : ∀ z ∈ ids t, valT t (d.set (plc t x) (if w + valT t d y < valT t d x then w + valT t d y else valT t d x)) z ≤ valT t d z := fun z hz => by
   rw [hval z hz]
   split
   ·rename_i e; subst e; split <;> omega
   ·exact Int.le_refl _
  refine ⟨⟨by simp [hB.len], fun z hz => Int.le_trans (hle z hz) (hB.le z hz), fun z hz hlt => ?_, Int.le_trans (hle to hto) hB.z⟩, hle, fun _ => ?_⟩
  ·rw [hval z hz] at hlt ⊢
   split
   ·rename_i e; subst e
    rw [if_pos rfl] at hlt
    split
    ·exact (Wk.one hw).trans (hB.wk y hy h)
    ·rename_i hn; rw [if_neg hn] at hlt; exact hB.wk z hz hlt
   ·rename_i e; rw [if_neg e] at hlt; exact hB.wk z hz hlt
  ·rw [hval x hx, if_pos rfl]; split <;> omega
 ·rw [if_neg h]
  exact ⟨hB, fun z _ => Int.le_refl _, fun h' => absurd h' h⟩
open Classical in
noncomputable def badB (t : GTopology) (to : Int) (d : List Int) (x : Int) : Bool := decide (∃ k, dst (lkC t) x to = some k ∧ k < valT t d x)
noncomputable def badN (t : GTopology) (to : Int) (d : List Int) : Nat := ((ids t).filter (badB t to d)).length
theorem filter_less {α : Type} {p q : α → Bool} {l : List α} (h : ∀ x ∈ l, q x = true → p x = true) : (l.filter q).length ≤ (l.filter p).length ∧ ∀ x ∈ l, p x = true → q x = false → (l.filter q).length < (l.filter p).length := by
 induction l with
 | nil => simp
 | cons y l ih =>
  obtain ⟨i1, i2⟩ := ih fun x hx => h x (by simp [hx])
  have hy := h y (by simp)
  cases hq : q y with
  | true =>
   rw [List.filter_cons_of_pos hq, List.filter_cons_of_pos (hy hq)]
   refine ⟨by simpa using i1, fun x hx hp hn => ?_⟩
   rcases List.mem_cons.1 hx with rfl | hx
   ·rw [hq] at hn; cases hn
   ·have := i2 x hx hp hn; simpa using this
  | false =>
   rw [List.filter_cons_of_neg (by simp [hq])]
   cases hp : p y with
   | true =>
    rw [List.filter_cons_of_pos hp]
    simp only [List.length_cons]
    exact ⟨by omega, fun x hx _ _ => by omega⟩
   | false =>
    rw [List.filter_cons_of_neg (by simp [hp])]
    refine ⟨i1, fun x hx hp' hn => ?_⟩
    rcases List.mem_cons.1 hx with rfl | hx
    ·rw [hp] at hp'; cases hp'
    ·exact i2 x hx hp' hn
theorem dst_small {t : GTopology} (hv : Vt t) {a b k : Int} (ha : a ∈ ids t) (h : dst (lkC t) a b = some k) : 0 ≤ k ∧ k ≤ 24000 := by
 obtain ⟨g, h1, h2⟩ := read_ok hv
 obtain ⟨l, h3, h4⟩ := dijk h2.fw ha
 exact h4.2.2 b k h
/-- what a round brings -/
theorem round_less {t : GTopology} (hv : Vt t) {to : Int} {d d' : List Int} (hB : Bf t to d) (hle : ∀ z ∈ ids t, valT t d' z ≤ valT t d z)
  (hr : ∀ l ∈ t.Links, (valT t d l.B < 1073741824 → valT t d' l.A ≤ l.CostA + valT t d l.B) ∧ (valT t d l.A < 1073741824 → valT t d' l.B ≤ l.CostB + valT t d l.A)) : badN t to d' ≤ badN t to d ∧ (badN t to d ≠ 0 → badN t to d' < badN t to d) := by
 have hmono : ∀ x ∈ ids t, badB t to d' x = true → badB t to d x = true := fun x hx h => by
  simp only [badB, decide_eq_true_eq] at h ⊢
  obtain ⟨k, h1, h2⟩ := h
  exact ⟨k, h1, by have := hle x hx; omega⟩
 obtain ⟨f1, f2⟩ := filter_less hmono
 refine ⟨f1, fun hne => ?_⟩
 -- the nearest of those that are not yet right
 have ex : ∀ (n : Nat) (x k : Int), k.toNat = n → x ∈ ids t → dst (lkC t) x to = some k → k < valT t d x → ∃ x k, x ∈ ids t ∧ dst (lkC t) x to = some k ∧ k < valT t d x ∧ ∀ y m, y ∈ ids t → dst (lkC t) y to = some m → m < k → valT t d y ≤ m := by
  intro n
  induction n using Nat.strongRecOn with
  | _ n ih =>
   intro x k hn hx h1 h2
   by_cases hall : ∀ y m, y ∈ ids t → dst (lkC t) y to = some m → m < k → valT t d y ≤ m
   ·exact ⟨x, k, hx, h1, h2, hall⟩
   ·have : ∃ y m, y ∈ ids t ∧ dst (lkC t) y to = some m ∧ m < k ∧ m < valT t d y := by
     refine Classical.byContradiction fun hc => hall fun y m q1 q2 q3 => ?_
     by_cases q : valT t d y ≤ m
     ·exact q
     ·exact absurd ⟨y, m, q1, q2, q3, by omega⟩ hc
    obtain ⟨y, m, q1, q2, q3, q4⟩ := this
    have := dst_nonneg (lkC_pos hv) q2
    exact ih m.toNat (by omega) y m rfl q1 q2 q4
 have : ∃ x, x ∈ (ids t).filter (badB t to d) := by
  cases hf : (ids t).filter (badB t to d) with
  | nil => exact absurd (by unfold badN; rw [hf]; rfl) hne
  | cons x r => exact ⟨x, by simp⟩
 obtain ⟨x0, hx0⟩ := this
 obtain ⟨m1, m2⟩ := List.mem_filter.1 hx0
 simp only [badB, decide_eq_true_eq] at m2
 obtain ⟨k0, m3, m4⟩ := m2
 obtain ⟨x, k, x1, x2, x3, x4⟩ := ex _ x0 k0 rfl m1 m3 m4
 refine f2 x x1 (by simp only [badB, decide_eq_true_eq]; exact ⟨k, x2, x3⟩) ?_
 simp only [badB, decide_eq_false_iff_not]
 rintro ⟨k', y1, y2⟩
 rw [x2] at y1; cases y1
 have hxt : x ≠ to := fun e => by
  subst e
  have := dst_nonneg (lkC_pos hv) x2
  have := hB.z
  omega
 obtain ⟨y, w, m, z1, z2, z3⟩ := dst_first x2 hxt
 obtain ⟨_, hy⟩ := lkC_ids hv z1
 have hw := lkC_le hv z1
 have hvy := x4 y m hy z2 (by omega)
 have hsm := dst_small hv hy z2
 obtain ⟨l, hl, he⟩ := adj_iff.1 (lkC_some.1 z1).1
 have hlt := hv.lt l hl
 rcases he with ⟨rfl, rfl⟩ | ⟨rfl, rfl⟩
 ·have hc : w = l.CostA := by
   rw [← (lkC_some.1 z1).2, price_eq hv hl (by simp [eitherB])]; simp [priceOf]
  have := (hr l hl).1 (by omega)
  omega
 ·have hc : w = l.CostB := by
   have : l.A ≠ l.B := by omega
   rw [← (lkC_some.1 z1).2, price_eq hv hl (by simp [eitherB])]; simp [priceOf, this]
  have := (hr l hl).2 (by omega)
  omega
theorem lk_link {t : GTopology} (hv : Vt t) {l : GLink} (hl : l ∈ t.Links) : lkC t l.A l.B = some l.CostA ∧ lkC t l.B l.A = some l.CostB := by
 have hlt := hv.lt l hl
 have hne : l.A ≠ l.B := by omega
 constructor
 ·refine lkC_some.2 ⟨adj_iff.2 ⟨l, hl, .inl ⟨rfl, rfl⟩⟩, ?_⟩
  rw [price_eq hv hl (by simp [eitherB])]; simp [priceOf]
 ·refine lkC_some.2 ⟨adj_iff.2 ⟨l, hl, .inr ⟨rfl, rfl⟩⟩, ?_⟩
  rw [price_eq hv hl (by simp [eitherB])]; simp [priceOf, hne]
/-- the costs to a router, as a list -/
structure ToP (t : GTopology) (to : Int) (d : List Int) : Prop where
 len : d.length = t.Routers.length
 val : ∀ x ∈ ids t, valT t d x = (dst (lkC t) x to).getD 1073741824
theorem ref_To {t : GTopology} (hv : Vt t) {to : Int} (hto : to ∈ ids t) : Ok (m_ref06_To t to) (ToP t to) := by
 have hn : t.Routers.length ≤ 24 := hv.nr
 unfold m_ref06_To
 refine Ok.chk (by simp; omega) ?_
 refine Ok.whl (fun (s : List Int × Int) => s.1.length = t.Routers.length ∧ 0 ≤ s.2 ∧ s.2 ≤ (t.Routers.length : Int) ∧ ∀ j : Nat, (j : Int) < s.2 → s.1[j]? = ((ids t)[j]?).map fun y => if y = to then 0 else 1073741824) (fun (s : List Int × Int) => ((t.Routers.length : Int) - s.2).toNat) (s := (List.replicate ((t.Routers.length:Int)).toNat (0:Int), (0:Int))) ⟨by simp, Int.le_refl _, by simp, fun j hj => by simp at hj; omega⟩ (by simp; omega) ?_
 rintro ⟨d, i⟩ Z ⟨i1, i2, i3, i4⟩ hZ
 simp only at i1 i2 i3 i4 hZ ⊢
 refine Ok.cs (fun h1 => ?_) fun h1 => ?_
 ·have hi : i < d.length := of_decide_eq_true h1
  refine Ok.jn (fun d2 => d2.length = t.Routers.length ∧ ∀ j : Nat, (j : Int) < i + 1 → d2[j]? = ((ids t)[j]?).map fun y => if y = to then 0 else 1073741824) (fun d2 hd2 => ?_) fun J hJ => ?_
  ·rw [w64_sm (by omega) (by omega)]
   exact hZ (d2, i + 1) ⟨hd2.1, by omega, by omega, hd2.2⟩ (by simp only; omega)
  refine Ok.bnd (elO_ok i2 (by omega)) fun _ _ => Ok.bnd (set_ok i2 hi) fun l1 hl1 => Ok.bnd (elO_ok i2 (by omega)) fun e he => ?_
  have hid : (ids t)[i.toNat]? = some e.ID := by simp [ids, he.2]
  obtain ⟨rfl, hl2⟩ := hl1
  have hcase : ∀ (v : Int) (l : List Int), l = d.set i.toNat v → v = (if e.ID = to then 0 else 1073741824) → l.length = t.Routers.length ∧ ∀ j : Nat, (j : Int) < i + 1 → l[j]? = ((ids t)[j]?).map fun y => if y = to then 0 else 1073741824 := by
   rintro v l rfl hvv
   refine ⟨by simpa using i1, fun j hj => ?_⟩
   rw [List.getElem?_set]
   by_cases e1 : i.toNat = j
   ·subst e1; rw [if_pos rfl, if_pos (by omega), hid, hvv]; rfl
   ·rw [if_neg e1]; exact i4 j (by omega)
  refine Ok.cs (fun h2 => ?_) fun h2 => ?_
  ·refine Ok.bnd (elO_ok i2 (by simpa using hi)) fun _ _ => Ok.bnd (set_ok i2 (by simpa using hi)) fun l2 hl3 => hJ l2 (hcase 0 l2 (by rw [hl3.1, List.set_set]) (by rw [if_pos (of_decide_eq_true h2)]))
  ·exact hJ _ (hcase 1073741824 _ rfl (by rw [if_neg (of_decide_eq_false h2)]))
 -- the rounds
 have hi : i = (t.Routers.length : Int) := by have := of_decide_eq_false h1; omega
 subst hi
 have hv0 : ∀ x ∈ ids t, valT t d x = if x = to then 0 else 1073741824 := fun x hx => by
  have hp := plc_lt hx
  have := i4 (plc t x) (by omega)
  rw [show (ids t)[plc t x]? = some x by
   unfold plc
   rw [List.getElem?_eq_getElem (List.idxOf_lt_length_of_mem hx)]
   exact congrArg some (List.getElem_idxOf _)] at this
  unfold valT
  rw [List.getD_eq_getElem?_getD, this]; rfl
 have hB0 : Bf t to d := ⟨i1, fun x hx => by rw [hv0 x hx]; split <;> omega, fun x hx h => by
  rw [hv0 x hx] at h ⊢
  split
  ·rename_i e; subst e; exact .nil
  ·rename_i e; rw [if_neg e] at h; omega, by rw [hv0 to hto, if_pos rfl]; exact Int.le_refl _⟩
 have hbad : badN t to d ≤ t.Routers.length := by
  have := List.length_filter_le (badB t to d) (ids t)
  simpa [badN, ids] using this
 refine Ok.whl (fun (s : List Int × Int) => Bf t to s.1 ∧ 0 ≤ s.2 ∧ s.2 ≤ (t.Routers.length : Int) ∧ (badN t to s.1 : Int) + s.2 ≤ (t.Routers.length : Int)) (fun (s : List Int × Int) => ((t.Routers.length : Int) - s.2).toNat) (s := (d, (0:Int))) ⟨hB0, Int.le_refl _, by simp, by simp; omega⟩ (by simp; omega) ?_
 rintro ⟨d, round⟩ Z ⟨j1, j2, j3, j4⟩ hZ
 simp only at j1 j2 j3 j4 hZ ⊢
 refine Ok.cs (fun h1 => ?_) fun h1 => .s ?_
 ·have hr : round < (t.Routers.length : Int) := by have := of_decide_eq_true h1; rw [j1.len] at this; exact this
  refine Ok.forL (fun p d' => Bf t to d' ∧ (∀ z ∈ ids t, valT t d' z ≤ valT t d z) ∧ ∀ l ∈ p, (valT t d l.B < 1073741824 → valT t d' l.A ≤ l.CostA + valT t d l.B) ∧ (valT t d l.A < 1073741824 → valT t d' l.B ≤ l.CostB + valT t d l.A)) ?_ _ ⟨j1, fun _ _ => Int.le_refl _, by simp⟩ ?_
  ·rintro p l r d4 Z2 hL ⟨k1, k2, k3⟩ hZ2
   have hl : l ∈ t.Links := by rw [hL]; simp
   obtain ⟨c1, c2⟩ := lk_link hv hl
   obtain ⟨a1, a2⟩ := lkC_ids hv c1
   obtain ⟨r1, r2, r3⟩ := relax_ok hv hto k1 c1
   obtain ⟨s1, s2, s3⟩ := relax_ok hv hto r1 c2
   have q1 := relax_run (β := List Int) hv k1 a1 a2 (lkC_le hv c1)
   have q2 := relax_run (β := List Int) hv r1 a2 a1 (lkC_le hv c2)
   have final := hZ2 (relax t (relax t d4 l.A l.B l.CostA) l.B l.A l.CostB) ⟨s1, fun z hz => Int.le_trans (s2 z hz) (Int.le_trans (r2 z hz) (k2 z hz)), fun m hm => by
    rcases List.mem_append.1 hm with hm | hm
    ·obtain ⟨u1, u2⟩ := k3 m hm
     have hm2 : m ∈ t.Links := by rw [hL]; simp [hm]
     obtain ⟨b1, b2⟩ := lkC_ids hv (lk_link hv hm2).1
     exact ⟨fun h => by have := u1 h; have := s2 _ b1; have := r2 _ b1; omega, fun h => by have := u2 h; have := s2 _ b2; have := r2 _ b2; omega⟩
    ·rw [List.mem_singleton.1 hm]
     refine ⟨fun h => ?_, fun h => ?_⟩
     ·have e1 := k2 _ a2
      have e2 := r3 (by omega)
      have e3 := s2 _ a1
      omega
     ·have e1 := k2 _ a1
      have e2 := r2 _ a1
      have e3 := s3 (by omega)
      omega⟩
   rw [ref_place a1, ref_place a2]
   refine Eq.mpr (congrArg (fun o => Ok o (ToP t to)) ?_) final
   refine (q1 _).trans ?_
   exact q2 _
  ·rintro d' ⟨k1, k2, k3⟩
   rw [w64_sm (by omega) (by omega)]
   obtain ⟨n1, n2⟩ := round_less hv j1 k2 k3
   refine hZ (d', round + 1) ⟨k1, by omega, by omega, ?_⟩ (by simp only; omega)
   by_cases hz : badN t to d = 0
   ·simp only; omega
   ·have := n2 hz; simp only; omega
 ·have hr : round = (t.Routers.length : Int) := by have := of_decide_eq_false h1; rw [j1.len] at this; omega
  have hb : badN t to d = 0 := by omega
  refine ⟨j1.len, fun x hx => ?_⟩
  have hnb : badB t to d x = false := by
   cases hq : badB t to d x with
   | false => rfl
   | true =>
    have : x ∈ (ids t).filter (badB t to d) := List.mem_filter.2 ⟨hx, hq⟩
    have := List.length_pos_of_mem this
    unfold badN at hb; omega
  simp only [badB, decide_eq_false_iff_not] at hnb
  cases hd : dst (lkC t) x to with
  | some k =>
   have hsm := dst_small hv hx hd
   have h1 : valT t d x ≤ k := by
    by_cases q : valT t d x ≤ k
    ·exact q
    ·exact absurd ⟨k, hd, by omega⟩ hnb
   have h2 := (dst_some.1 hd).2 _ (j1.wk x hx (by omega))
   simp only [Option.getD_some]; omega
  | none =>
   simp only [Option.getD_none]
   have h1 := j1.le x hx
   by_cases q : valT t d x < 1073741824
   ·exact absurd (j1.wk x hx q) ((dst_none (lkC_pos hv)).1 hd _)
   ·omega
end Go.Proofs.Ytflifgcoleknlaa

/- Costs, distances and next routers, both ways. No condition but those that stand in each. -/
namespace Go.Proofs.Ytflifgcoleknlaa
set_option linter.all false
open Go
open Classical in
/-- the cost of the shortest paths -/
noncomputable def dT (t : GTopology) (a b : Int) : Option Int := if chkT t = 0 ∧ a ∈ ids t ∧ b ∈ ids t then dst (lkC t) a b else none
theorem dT_in {t : GTopology} (hv : Vt t) {a b : Int} (ha : a ∈ ids t) (hb : b ∈ ids t) : dT t a b = dst (lkC t) a b := by
 unfold dT; rw [if_pos ⟨vt_iff.2 hv, ha, hb⟩]
theorem dT_ids {t : GTopology} {a b k : Int} (h : dT t a b = some k) : Vt t ∧ a ∈ ids t ∧ b ∈ ids t ∧ dst (lkC t) a b = some k := by
 unfold dT at h
 split at h
 ·rename_i hc; exact ⟨vt_iff.1 hc.1, hc.2.1, hc.2.2, h⟩
 ·cases h
theorem dT_bad {t : GTopology} {a b : Int} (h : ¬ (chkT t = 0 ∧ a ∈ ids t ∧ b ∈ ids t)) : dT t a b = none := by unfold dT; rw [if_neg h]
theorem dT_small {t : GTopology} {a b k : Int} (h : dT t a b = some k) : 0 ≤ k ∧ k ≤ 24000 := by
 obtain ⟨hv, ha, hb, hd⟩ := dT_ids h
 exact dst_small hv ha hd
theorem dT_self {t : GTopology} (hv : Vt t) {a : Int} (ha : a ∈ ids t) : dT t a a = some 0 := by rw [dT_in hv ha ha, dst_self (lkC_pos hv)]
theorem dT_zero {t : GTopology} {a b : Int} (h : dT t a b = some 0) : a = b := by
 obtain ⟨hv, _, _, hd⟩ := dT_ids h
 exact dst_zero (lkC_pos hv) hd
theorem dst_out {t : GTopology} (hv : Vt t) {a b : Int} (ha : a ∈ ids t) (hb : b ∉ ids t) : dst (lkC t) a b = none :=
 (dst_none (lkC_pos hv)).2 fun m hm => hb (hm.ids hv ha)
/-- the search over the graph that was read -/
theorem sp_fw {t : GTopology} (hv : Vt t) {g : GShortest_graph} (hg : RdT t g) (a : Int) : ∃ l, m_shortest_distances g.out_ a = some l ∧ ∀ x, getI l x = dT t a x := by
 by_cases ha : a ∈ ids t
 ·obtain ⟨l, h1, _, h2, _⟩ := dijk hg.fw ha
  refine ⟨l, h1, fun x => ?_⟩
  rw [h2]
  by_cases hx : x ∈ ids t
  ·rw [dT_in hv ha hx]
  ·rw [dT_bad (fun h => hx h.2.2), dst_out hv ha hx]
 ·refine ⟨[], dijk_no ?_, fun x => by rw [dT_bad (fun h => ha h.2.1)]; rfl⟩
  have := hg.fw.keys a
  cases h : (getI g.out_ a).isSome with
  | false => rfl
  | true => exact absurd (this.1 h) ha
theorem sp_bw {t : GTopology} (hv : Vt t) {g : GShortest_graph} (hg : RdT t g) (b : Int) : ∃ l, m_shortest_distances g.in_ b = some l ∧ ∀ x, getI l x = dT t x b := by
 by_cases hb : b ∈ ids t
 ·obtain ⟨l, h1, _, h2, _⟩ := dijk hg.bw hb
  refine ⟨l, h1, fun x => ?_⟩
  rw [h2, dst_rev]
  by_cases hx : x ∈ ids t
  ·rw [dT_in hv hx hb]
  ·rw [dT_bad (fun h => hx h.2.1)]
   exact (dst_none (lkC_pos hv)).2 fun m hm => hx (by
    cases hm.rev with
    | nil => exact absurd hb hx
    | snoc _ hk => exact (lkC_ids hv hk).1)
 ·refine ⟨[], dijk_no ?_, fun x => by rw [dT_bad (fun h => hb h.2.2)]; rfl⟩
  have := hg.bw.keys b
  cases h : (getI g.in_ b).isSome with
  | false => rfl
  | true => exact absurd (this.1 h) hb
/-! ## costs -/
noncomputable def costT (t : GTopology) (a b : Int) : Int × Bool := ((dT t a b).getD 0, (dT t a b).isSome)
theorem valid_eq (t : GTopology) : m_shortest_valid t = some (decide (chkT t = 0)) := by unfold m_shortest_valid; rw [top_check]; rfl
theorem top_Cost6 (t : GTopology) (a b : Int) : m_shortest_Cost t a b = some (costT t a b) := by
 unfold m_shortest_Cost
 rw [valid_eq, bnd_s]
 by_cases h : chkT t = 0
 ·have hv := vt_iff.1 h
  obtain ⟨g, h1, h2⟩ := read_ok hv
  obtain ⟨l, h3, h4⟩ := sp_fw hv h2 a
  rw [decide_eq_true h, h1, bnd_s, h3, bnd_s, h4]; rfl
 ·rw [decide_eq_false h]
  unfold costT
  rw [dT_bad fun e => h e.1]; rfl
theorem at_to {t : GTopology} (hv : Vt t) {to : Int} (hto : to ∈ ids t) {d : List Int} (hd : ToP t to d) (x : Int) : m_ref06_At t d x = some ((dT t x to).getD 1073741824) := by
 rw [ref_at]
 by_cases hx : x ∈ ids t
 ·rw [if_pos hx, elO_val hd.len hx, hd.val x hx, dT_in hv hx hto]
 ·rw [if_neg hx, dT_bad fun e => hx e.2.1]; rfl
theorem has_ids {t : GTopology} {r : Int} : hasB t r = decide (r ∈ ids t) := by
 by_cases h : r ∈ ids t
 ·rw [decide_eq_true h, ids_has.1 h]
 ·rw [decide_eq_false h]
  cases hh : hasB t r with
  | false => rfl
  | true => exact absurd (ids_has.2 hh) h
/-- both ends there, or not -/
theorem both_has {α : Type} (t : GTopology) (a b : Int) (k : Bool → Option α) : (jn k fun J => bnd (m_ref05_Has t a) fun (v1 : Bool) => bif !v1 then J true else bnd (m_ref05_Has t b) fun (v2 : Bool) => J (!v2)) = k (!decide (chkT t = 0 ∧ a ∈ ids t ∧ b ∈ ids t)) := by
 simp only [jn]
 rw [ref_Has, ref_Has, bnd_s, has_ids, has_ids]
 by_cases h : chkT t = 0 <;> by_cases h1 : a ∈ ids t <;> by_cases h2 : b ∈ ids t <;> simp [h, h1, h2, bnd]
theorem ref_Cost6 (t : GTopology) (a b : Int) : m_ref06_Cost t a b = some (costT t a b) := by
 unfold m_ref06_Cost
 refine (both_has t a b _).trans ?_
 by_cases h : chkT t = 0 ∧ a ∈ ids t ∧ b ∈ ids t
 ·have hv := vt_iff.1 h.1
  obtain ⟨d, h1, h2⟩ := ref_To hv h.2.2
  rw [decide_eq_true h]
  simp only [Bool.not_true, cond_false]
  rw [h1, bnd_s, at_to hv h.2.2 h2, bnd_s]
  unfold costT
  cases hd : dT t a b with
  | none => rfl
  | some k =>
   have := dT_small hd
   simp only [Option.getD_some, Option.isSome_some]
   rw [decide_eq_false (by omega)]; rfl
 ·rw [decide_eq_false h]
  unfold costT
  rw [dT_bad h]; rfl
/-! ## the first routers of shortest paths -/
noncomputable def onB (t : GTopology) (b x y : Int) : Bool := match dT t x b, dT t y b with
 | some all, some c => decide ((priceT t x y).1 + c = all)
 | _, _ => false
noncomputable def nextT (t : GTopology) (b x : Int) : List Int := (nearL t x).filter (onB t b x)
theorem nextT_none {t : GTopology} {b x : Int} (h : dT t x b = none) : nextT t b x = [] := by
 unfold nextT
 rw [List.filter_eq_nil_iff]
 intro y _
 simp [onB, h]
theorem near_len {t : GTopology} (hv : Vt t) (x : Int) : (nearL t x).length ≤ 24 := Nat.le_trans (List.length_filter_le _ _) (ids_len hv)
theorem top_next {t : GTopology} (hv : Vt t) {g : GShortest_graph} (hg : RdT t g) {b : Int} {l : List (Int × Int)} (hl : ∀ x, getI l x = dT t x b) (x : Int) : m_shortest_graph_next g l x = some (nextT t b x) := by
 unfold m_shortest_graph_next
 rw [hl]
 cases hd : dT t x b with
 | none => rw [nextT_none hd]; rfl
 | some all =>
  obtain ⟨_, hx, hb, _⟩ := dT_ids hd
  have hall := dT_small hd
  simp only [Option.isSome_some, Bool.not_true, cond_false, Option.getD_some]
  rw [hg.row x hx]
  have hn := near_len hv x
  refine (filt_loop (fun s : GShortest_step => onB t b x s.to_) (·.to_) (rowT t x) 0 [] (fun j s Z o hs ho => ?_) (by simp [rowT]; omega)).trans ?_
  ·have hc := (rowT_mem hv).1 hs
   have hcl := lkC_le hv hc
   have hp := (lkC_some.1 hc).2
   simp only [jn, hl]
   cases hy : dT t s.to_ b with
   | none => simp [onB, hd, hy]
   | some c =>
    have := dT_small hy
    rw [show onB t b x s.to_ = decide (s.cost_ + c = all) by simp [onB, hd, hy, hp]]
    simp only [Option.isSome_some, Bool.true_and, Option.getD_some]
    have hw : w64 (s.cost_ + c) = s.cost_ + c := w64_sm (by omega) (by omega)
    simp only [hw]
    rw [app1 ho]; rfl
  ·rw [List.nil_append, rowT, List.filter_map, List.map_map]
   have : ((fun (x : GShortest_step) => x.to_) ∘ fun y => (⟨y, (priceT t x y).1⟩ : GShortest_step)) = id := rfl
   rw [this, List.map_id]; rfl
theorem ref_steps {t : GTopology} (hv : Vt t) {b : Int} (hb : b ∈ ids t) {d : List Int} (hd : ToP t b d) (x : Int) : m_ref06_Steps t d x = some (nextT t b x) := by
 unfold m_ref06_Steps
 rw [at_to hv hb hd, bnd_s]
 cases hx : dT t x b with
 | none => rw [nextT_none hx]; rfl
 | some all =>
  have hall := dT_small hx
  simp only [Option.getD_some]
  rw [decide_eq_false (show ¬ all = 1073741824 by omega), Bool.false_or]
  by_cases h0 : all = 0
  ·rw [decide_eq_true h0, cond_true]
   have : nextT t b x = [] := by
    unfold nextT
    rw [List.filter_eq_nil_iff]
    intro y hy
    have := (price_pos hv ((nearL_mem hv).1 hy)).1
    cases hd2 : dT t y b with
    | none => simp [onB, hx, hd2]
    | some c => have := dT_small hd2; simp [onB, hx, hd2]; omega
   rw [this]
  ·rw [decide_eq_false h0, cond_false, ref_near hv, bnd_s]
   have hn := near_len hv x
   refine (filt_loop (onB t b x) id (nearL t x) 0 [] (fun j y Z o hy ho => ?_) (by simp; omega)).trans (by rw [List.nil_append, List.map_id]; rfl)
   have hp := price_pos hv ((nearL_mem hv).1 hy)
   simp only [jn, ref_price, bnd_s, at_to hv hb hd]
   cases hd2 : dT t y b with
   | none => simp [onB, hx, hd2]
   | some c =>
    have := dT_small hd2
    simp only [Option.getD_some]
    have hw : w64 ((priceT t x y).1 + c) = (priceT t x y).1 + c := w64_sm (by omega) (by omega)
    rw [decide_eq_true (show c < 1073741824 by omega), cond_true]
    simp only [hw]
    rw [app1 ho, show onB t b x y = decide ((priceT t x y).1 + c = all) by simp [onB, hx, hd2]]; rfl
theorem next_self {t : GTopology} (hv : Vt t) (a : Int) : nextT t a a = [] := by
 unfold nextT
 rw [List.filter_eq_nil_iff]
 intro y hy
 have ha := adj_ids hv (adj_symm ((nearL_mem hv).1 hy))
 have := (price_pos hv ((nearL_mem hv).1 hy)).1
 cases hd2 : dT t y a with
 | none => simp [onB, dT_self hv ha, hd2]
 | some c => have := dT_small hd2; simp [onB, dT_self hv ha, hd2]; omega
/-- the beginning of what Next, Route say: nothing at a bad topology, or at one and the same router -/
theorem top_begin {α : Type} (t : GTopology) (a b : Int) (k : Bool → Option α) : (jn k fun J => bnd (m_shortest_valid t) fun (v1 : Bool) => (bif !v1 then J true else J (decide (a = b)))) = k (!decide (chkT t = 0) || decide (a = b)) := by
 simp only [jn]
 rw [valid_eq, bnd_s]
 by_cases h : chkT t = 0 <;> simp [h]
theorem next_bad {t : GTopology} {a b : Int} (h : ¬ (chkT t = 0 ∧ a ∈ ids t ∧ b ∈ ids t)) : nextT t b a = [] := nextT_none (dT_bad h)
theorem top_Next6 (t : GTopology) (a b : Int) : m_shortest_Next t a b = some (nextT t b a) := by
 unfold m_shortest_Next
 refine (top_begin t a b _).trans ?_
 by_cases h : chkT t = 0
 ·have hv := vt_iff.1 h
  by_cases hab : a = b
  ·subst hab; rw [next_self hv]; simp
  ·obtain ⟨g, h1, h2⟩ := read_ok hv
   obtain ⟨l, h3, h4⟩ := sp_bw hv h2 b
   rw [decide_eq_true h, decide_eq_false hab]
   simp only [Bool.not_true, Bool.or_self, cond_false]
   rw [h1, bnd_s, h3, bnd_s, top_next hv h2 h4, bnd_s]
 ·rw [decide_eq_false h, next_bad fun e => h e.1]; rfl
theorem ref_Next6 (t : GTopology) (a b : Int) : m_ref06_Next t a b = some (nextT t b a) := by
 unfold m_ref06_Next
 refine (both_has t a b _).trans ?_
 by_cases h : chkT t = 0 ∧ a ∈ ids t ∧ b ∈ ids t
 ·have hv := vt_iff.1 h.1
  obtain ⟨d, h1, h2⟩ := ref_To hv h.2.2
  rw [decide_eq_true h]
  simp only [Bool.not_true, cond_false]
  rw [h1, bnd_s, ref_steps hv h.2.2 h2, bnd_s]
 ·rw [decide_eq_false h, next_bad h]; rfl
end Go.Proofs.Ytflifgcoleknlaa

/- Routes and numbers of paths, both ways. No condition but those that stand in each. -/
namespace Go.Proofs.Ytflifgcoleknlaa
set_option linter.all false
open Go
theorem next_mem {t : GTopology} (hv : Vt t) {b x y : Int} : y ∈ nextT t b x ↔ ∃ w m k, lkC t x y = some w ∧ dT t y b = some m ∧ dT t x b = some k ∧ w + m = k := by
 unfold nextT
 rw [List.mem_filter, nearL_mem hv]
 constructor
 ·rintro ⟨h1, h2⟩
  unfold onB at h2
  split at h2
  ·rename_i all c e1 e2
   exact ⟨_, c, all, lkC_some.2 ⟨h1, rfl⟩, e2, e1, of_decide_eq_true h2⟩
  ·cases h2
 ·rintro ⟨w, m, k, h1, h2, h3, h4⟩
  obtain ⟨h5, h6⟩ := lkC_some.1 h1
  exact ⟨h5, by simp [onB, h2, h3, h6, h4]⟩
theorem next_less {t : GTopology} (hv : Vt t) {b x y : Int} (h : y ∈ nextT t b x) : ∃ m k, dT t y b = some m ∧ dT t x b = some k ∧ m < k := by
 obtain ⟨w, m, k, h1, h2, h3, h4⟩ := (next_mem hv).1 h
 have := (lkC_le hv h1).1
 exact ⟨m, k, h2, h3, by omega⟩
theorem next_ids {t : GTopology} {b x y : Int} (hv : Vt t) (h : y ∈ nextT t b x) : y ∈ ids t := by
 obtain ⟨m, k, h1, _⟩ := next_less hv h
 exact (dT_ids h1).2.1
theorem next_len {t : GTopology} (hv : Vt t) (b x : Int) : (nextT t b x).length ≤ 24 := Nat.le_trans (List.length_filter_le _ _) (near_len hv x)
theorem next_nodup {t : GTopology} (hv : Vt t) (b x : Int) : (nextT t b x).Pairwise (· < ·) := (nearL_lt hv x).sublist List.filter_sublist
theorem next_ex {t : GTopology} {b x k : Int} (h : dT t x b = some k) (hne : x ≠ b) : ∃ y, y ∈ nextT t b x := by
 obtain ⟨hv, hx, hb, hd⟩ := dT_ids h
 obtain ⟨y, w, m, h1, h2, h3⟩ := dst_first hd hne
 exact ⟨y, (next_mem hv).2 ⟨w, m, k, h1, by rw [dT_in hv (lkC_ids hv h1).2 hb]; exact h2, h, by omega⟩⟩
/-! ## how many are nearer -/
noncomputable def nearerB (t : GTopology) (b x y : Int) : Bool := match dT t y b, dT t x b with
 | some m, some k => decide (m < k)
 | _, _ => false
noncomputable def rk (t : GTopology) (b x : Int) : Nat := ((ids t).filter (nearerB t b x)).length
theorem rk_less {t : GTopology} (hv : Vt t) {b x y : Int} (h : y ∈ nextT t b x) : rk t b y < rk t b x := by
 obtain ⟨m, k, h1, h2, h3⟩ := next_less hv h
 refine (filter_less fun z hz hq => ?_).2 y (next_ids hv h) (by simp [nearerB, h1, h2, h3]) (by simp [nearerB, h1])
 unfold nearerB at hq ⊢
 rw [h1] at hq
 rw [h2]
 cases hd : dT t z b with
 | none => rw [hd] at hq; cases hq
 | some j => rw [hd] at hq; simp only [decide_eq_true_eq] at hq ⊢; omega
theorem rk_lt {t : GTopology} (hv : Vt t) {b x : Int} (hb : b ∈ ids t) : rk t b x < (ids t).length := by
 cases hd : dT t x b with
 | none =>
  have : (ids t).filter (nearerB t b x) = [] := by
   rw [List.filter_eq_nil_iff]; intro y _; cases h : dT t y b <;> simp [nearerB, hd, h]
  unfold rk; rw [this]; exact List.length_pos_of_mem hb
 | some k =>
  have hx := (dT_ids hd).2.1
  have := (filter_less (p := fun _ => true) (q := nearerB t b x) (l := ids t) fun _ _ _ => rfl).2 x hx rfl (by simp [nearerB, hd])
  rw [List.filter_eq_self.2 fun _ _ => rfl] at this
  exact this
theorem next_rk {t : GTopology} (hv : Vt t) (b x : Int) : (nextT t b x).length ≤ rk t b x := by
 refine nodup_len ((next_nodup hv b x).imp fun h => Int.ne_of_lt h) fun y hy => List.mem_filter.2 ⟨next_ids hv hy, ?_⟩
 obtain ⟨m, k, h1, h2, h3⟩ := next_less hv hy
 simp [nearerB, h1, h2, h3]
/-! ## routes -/
def rtF (f : Int → List Int) (b : Int) : Nat → Int → List Int → List Int
 | 0, _, _ => []
 | n + 1, x, out => if x = b then out else match f x with
  | [] => []
  | y :: _ => rtF f b n y (out ++ [y])
noncomputable def routeT (t : GTopology) (a b : Int) : List Int := rtF (nextT t b) b 30 a []
theorem rtF_bad (b : Int) {f : Int → List Int} {n : Nat} {a : Int} (h : f a = []) (hab : a ≠ b) (out : List Int) : rtF f b n a out = [] := by
 cases n with
 | zero => rfl
 | succ n => simp [rtF, hab, h]
theorem route_bad {t : GTopology} {a b : Int} (h : ¬ (chkT t = 0 ∧ a ∈ ids t ∧ b ∈ ids t)) : routeT t a b = [] := by
 by_cases hab : a = b
 ·simp [routeT, rtF, hab]
 ·exact rtF_bad b (next_bad h) hab []
theorem top_Route6 (t : GTopology) (a b : Int) : m_shortest_Route t a b = some (routeT t a b) := by
 unfold m_shortest_Route
 refine (top_begin t a b _).trans ?_
 by_cases h : chkT t = 0
 ·have hv := vt_iff.1 h
  by_cases hab : a = b
  ·subst hab; simp [routeT, rtF]
  ·obtain ⟨g, h1, h2⟩ := read_ok hv
   obtain ⟨l, h3, h4⟩ := sp_bw hv h2 b
   rw [decide_eq_true h, decide_eq_false hab]
   simp only [Bool.not_true, Bool.or_self, cond_false]
   rw [h1, bnd_s, h3, bnd_s]
   refine Ok.eq ?_
   by_cases hb : b ∈ ids t
   ·have hlen := ids_len hv
    refine Ok.whl (fun s => s.1.length ≤ 30 ∧ ∃ n, rk t b s.2 < n ∧ n + s.1.length ≤ 30 ∧ rtF (nextT t b) b n s.2 s.1 = routeT t a b) (fun s => rk t b s.2) (s := ([], a)) ⟨by simp, 30, by show rk t b a < 30; have := rk_lt hv (x := a) hb; omega, by simp, rfl⟩ (by have := rk_lt hv (x := a) hb; simp only; omega) ?_
    rintro ⟨out, x⟩ Z ⟨i0, n, i1, i2, i3⟩ hZ
    simp only at i0 i1 i2 i3 hZ ⊢
    refine Ok.cs (fun hx => ?_) fun hx => .s ?_
    ·have hxb : x ≠ b := by simpa using hx
     rw [top_next hv h2 h4, bnd_s]
     cases hn : nextT t b x with
     | nil => exact .s (by rw [← i3, rtF_bad b hn hxb])
     | cons y r =>
      have hr := rk_less hv (b := b) (x := x) (y := y) (by rw [hn]; simp)
      obtain ⟨n, rfl⟩ : ∃ m, n = m + 1 := ⟨n - 1, by omega⟩
      simp only [List.length_cons]
      rw [decide_eq_false (by omega), cond_false]
      simp only [elO]
      rw [if_pos (by decide)]
      simp only [Int.toNat_zero, List.getElem?_cons_zero, bnd_s, app1 (show out.length < 1000000 by omega)]
      rw [List.length_append]
      simp only [List.length_cons, List.length_nil]
      have hw : w64 (((out.length + (0 + 1) : Nat) : Int) - 1) = (out.length : Int) := by rw [w64_sm (by omega) (by omega)]; omega
      rw [hw, if_pos (by omega)]
      simp only [Int.toNat_natCast]
      rw [List.getElem?_append_right (by omega)]
      simp only [Nat.sub_self, List.getElem?_cons_zero, bnd_s]
      refine hZ (out ++ [y], y) ⟨by simp; omega, n, by show rk t b y < n; omega, by simp; omega, ?_⟩ hr
      rw [← i3]; simp [rtF, hxb, hn]
    ·have hxb : x = b := by simpa using hx
     rw [← i3]
     obtain ⟨n, rfl⟩ : ∃ m, n = m + 1 := ⟨n - 1, by omega⟩
     simp [rtF, hxb]
   ·have hn : nextT t b a = [] := next_bad fun e => hb e.2.2
    refine Ok.whl (fun s => s = ([], a)) (fun _ => 0) (s := ([], a)) rfl (by decide) ?_
    rintro _ Z rfl hZ
    simp only
    rw [decide_eq_false hab]
    simp only [Bool.not_false, cond_true]
    rw [top_next hv h2 h4, bnd_s, hn]
    refine .s ?_
    rw [route_bad fun e => hb e.2.2]
 ·rw [decide_eq_false h, route_bad fun e => h e.1]; rfl
theorem ref_Route6 (t : GTopology) (a b : Int) : m_ref06_Route t a b = some (routeT t a b) := by
 unfold m_ref06_Route
 refine (both_has t a b _).trans ?_
 by_cases h : chkT t = 0 ∧ a ∈ ids t ∧ b ∈ ids t
 ·have hv := vt_iff.1 h.1
  have hb := h.2.2
  obtain ⟨d, h1, h2⟩ := ref_To hv hb
  rw [decide_eq_true h]
  simp only [Bool.not_true, cond_false]
  rw [h1, bnd_s]
  refine Ok.eq ?_
  have hlen := ids_len hv
  refine Ok.whl (fun s => s.2.length ≤ 30 ∧ ∃ n, rk t b s.1 < n ∧ n + s.2.length ≤ 30 ∧ rtF (nextT t b) b n s.1 s.2 = routeT t a b) (fun s => rk t b s.1) (s := (a, [])) ⟨by simp, 30, by show rk t b a < 30; have := rk_lt hv (x := a) hb; omega, by simp, rfl⟩ (by have := rk_lt hv (x := a) hb; simp only; omega) ?_
  rintro ⟨x, out⟩ Z ⟨i0, n, i1, i2, i3⟩ hZ
  simp only at i0 i1 i2 i3 hZ ⊢
  refine Ok.cs (fun hx => ?_) fun hx => .s ?_
  ·have hxb : x ≠ b := by simpa using hx
   rw [ref_steps hv hb h2, bnd_s]
   cases hn : nextT t b x with
   | nil => exact .s (by rw [← i3, rtF_bad b hn hxb])
   | cons y r =>
    have hr := rk_less hv (b := b) (x := x) (y := y) (by rw [hn]; simp)
    obtain ⟨n, rfl⟩ : ∃ m, n = m + 1 := ⟨n - 1, by omega⟩
    simp only [List.length_cons]
    rw [decide_eq_false (by omega), cond_false]
    simp only [elO]
    rw [if_pos (by decide)]
    simp only [Int.toNat_zero, List.getElem?_cons_zero, bnd_s, app1 (show out.length < 1000000 by omega)]
    refine hZ (y, out ++ [y]) ⟨by simp; omega, n, by show rk t b y < n; omega, by simp; omega, ?_⟩ hr
    rw [← i3]; simp [rtF, hxb, hn]
  ·have hxb : x = b := by simpa using hx
   rw [← i3]
   obtain ⟨n, rfl⟩ : ∃ m, n = m + 1 := ⟨n - 1, by omega⟩
   simp [rtF, hxb]
 ·rw [decide_eq_false h, route_bad h]; rfl
/-! ## numbers of paths -/
def mn (v : Int) : Int := if v < 1000000 then v else 1000000
noncomputable def npF (t : GTopology) (b : Int) : Nat → Int → Int
 | 0, _ => 0
 | n + 1, x => if x = b then 1 else (nextT t b x).foldl (fun acc y => mn (acc + npF t b n y)) 0
theorem foldl_eq {α β : Type} {f g : β → α → β} : ∀ {l : List α} {a : β}, (∀ acc y, y ∈ l → f acc y = g acc y) → l.foldl f a = l.foldl g a
 | [], _, _ => rfl
 | x :: l, a, h => by
  simp only [List.foldl_cons]
  rw [h a x (by simp)]
  exact foldl_eq fun acc y hy => h acc y (by simp [hy])
theorem fold_cap {f : Int → Int} : ∀ {l : List Int} {a : Int}, (∀ y ∈ l, 0 ≤ f y) → 0 ≤ a → a ≤ 1000000 → l.foldl (fun acc y => mn (acc + f y)) a = mn (a + (l.map f).sum)
 | [], a, _, h0, h1 => by
  simp only [List.foldl_nil, List.map_nil, List.sum_nil, Int.add_zero, mn]
  split <;> omega
 | y :: l, a, hf, h0, h1 => by
  have hy := hf y (by simp)
  have hs : 0 ≤ (l.map f).sum := by
   have : ∀ m : List Int, (∀ z ∈ m, 0 ≤ f z) → 0 ≤ (m.map f).sum := by
    intro m
    induction m with
    | nil => simp
    | cons z m ih => intro h; simp only [List.map_cons, List.sum_cons]; have := h z (by simp); have := ih fun w hw => h w (by simp [hw]); omega
   exact this l fun z hz => hf z (by simp [hz])
  simp only [List.foldl_cons, List.map_cons, List.sum_cons]
  rw [fold_cap (fun z hz => hf z (by simp [hz])) (by unfold mn; split <;> omega) (by unfold mn; split <;> omega)]
  unfold mn
  by_cases hc : a + f y < 1000000
  ·rw [if_pos hc, show a + f y + (l.map f).sum = a + (f y + (l.map f).sum) by omega]
  ·rw [if_neg hc, if_neg (by omega), if_neg (by omega)]
theorem npF_rng {t : GTopology} {b : Int} : ∀ (n : Nat) (x : Int), 0 ≤ npF t b n x ∧ npF t b n x ≤ 1000000
 | 0, _ => by simp [npF]
 | n + 1, x => by
  simp only [npF]
  split
  ·omega
  ·rw [fold_cap (fun y _ => (npF_rng n y).1) (by omega) (by omega)]
   have : ∀ m : List Int, 0 ≤ (m.map (npF t b n)).sum := by
    intro m
    induction m with
    | nil => simp
    | cons z m ih => simp only [List.map_cons, List.sum_cons]; have := (npF_rng (t := t) (b := b) n z).1; omega
   have h9 : 0 ≤ ((nextT t b x).map fun y => npF t b n y).sum := this (nextT t b x)
   unfold mn; split <;> omega
theorem npF_stable {t : GTopology} (hv : Vt t) {b : Int} : ∀ (n m : Nat) (x : Int), rk t b x < n → rk t b x < m → npF t b n x = npF t b m x
 | 0, _, _, h, _ => by omega
 | _ + 1, 0, _, _, h => by omega
 | n + 1, m + 1, x, h1, h2 => by
  simp only [npF]
  split
  ·rfl
  ·refine foldl_eq fun acc y hy => ?_
   have := rk_less hv hy
   rw [npF_stable hv n m y (by omega) (by omega)]
noncomputable def np (t : GTopology) (b x : Int) : Int := npF t b 30 x
theorem np_eq {t : GTopology} (hv : Vt t) {b : Int} (hb : b ∈ ids t) {n : Nat} {x : Int} (h : rk t b x < n) : npF t b n x = np t b x :=
 npF_stable hv n 30 x h (by have := rk_lt hv (x := x) hb; have := ids_len hv; omega)
theorem np_rng {t : GTopology} (b x : Int) : 0 ≤ np t b x ∧ np t b x ≤ 1000000 := npF_rng 30 x
theorem np_self (t : GTopology) (b : Int) : np t b b = 1 := by simp [np, npF]
theorem np_step {t : GTopology} (hv : Vt t) {b : Int} (hb : b ∈ ids t) {x : Int} (hx : x ≠ b) : np t b x = (nextT t b x).foldl (fun acc y => mn (acc + np t b y)) 0 := by
 unfold np
 rw [npF, if_neg hx]
 refine foldl_eq fun acc y hy => ?_
 have h1 := rk_less hv hy
 have h2 := rk_lt hv (x := x) hb
 have := ids_len hv
 rw [np_eq hv hb (n := 29) (by omega)]; rfl
theorem np_sum {t : GTopology} (hv : Vt t) {b : Int} (hb : b ∈ ids t) {x : Int} (hx : x ≠ b) : np t b x = mn ((nextT t b x).map (np t b)).sum := by
 rw [np_step hv hb hx, fold_cap (fun y _ => (np_rng b y).1) (by omega) (by omega), Int.zero_add]
open Classical in
noncomputable def pathsT (t : GTopology) (a b : Int) : Int := if chkT t = 0 ∧ a ∈ ids t ∧ b ∈ ids t then np t b a else 0
def memoB (t : GTopology) (b : Int) (m : List (Int × Int)) : Prop := ∀ z v, getI m z = some v → v = np t b z
theorem top_paths {t : GTopology} (hv : Vt t) {g : GShortest_graph} (hg : RdT t g) {b : Int} (hb : b ∈ ids t) {l : List (Int × Int)} (hl : ∀ x, getI l x = dT t x b) :
  ∀ (n : Nat) (x : Int) (m : List (Int × Int)), rk t b x < n → memoB t b m → Ok (m_shortest_graph_paths n g l m x b) (fun r => r.1 = np t b x ∧ memoB t b r.2)
 | 0, _, _, h, _ => by omega
 | n + 1, x, m, h, hm => by
  rw [m_shortest_graph_paths]
  refine Ok.cs (fun hx => ?_) fun hx => Ok.cs (fun hk => ?_) fun hk => ?_
  ·have := of_decide_eq_true hx; subst this; exact .s ⟨(np_self t x).symm, hm⟩
  ·obtain ⟨v, hv2⟩ := Option.isSome_iff_exists.1 hk
   rw [hv2]; exact .s ⟨hm x v hv2, hm⟩
  ·have hxb := of_decide_eq_false hx
   rw [top_next hv hg hl, bnd_s]
   refine Ok.forL (L := nextT t b x) (fun p s => s.1 = p.foldl (fun acc y => mn (acc + np t b y)) 0 ∧ memoB t b s.2) ?_ ((0:Int), m) ⟨rfl, hm⟩ ?_
   ·rintro p y r ⟨c, m1⟩ Z hL ⟨i1, i2⟩ hZ
    simp only at i1 i2 ⊢
    have hy : y ∈ nextT t b x := by rw [hL]; simp
    have hr := rk_less hv hy
    refine Ok.bnd (top_paths hv hg hb hl n y m1 (by omega) i2) fun q hq => ?_
    obtain ⟨q1, q2⟩ := hq
    have e : p.foldl (fun acc y => mn (acc + np t b y)) 0 = mn (0 + (p.map (np t b)).sum) := fold_cap (fun y _ => (np_rng b y).1) (by omega) (by omega)
    have hs : ∀ k : List Int, 0 ≤ (k.map (np t b)).sum := by
     intro k
     induction k with
     | nil => simp
     | cons z k ih => simp only [List.map_cons, List.sum_cons]; have := (np_rng (t := t) b z).1; omega
    have hc : 0 ≤ c ∧ c ≤ 1000000 := by rw [i1, e]; have := hs p; unfold mn; split <;> omega
    have hqr := np_rng (t := t) b y
    rw [q1, w64_sm (by omega) (by omega)]
    refine hZ _ ⟨?_, q2⟩
    rw [List.foldl_append, ← i1]; rfl
   ·rintro ⟨c, m1⟩ ⟨i1, i2⟩
    simp only at i1 i2 ⊢
    have hc : c = np t b x := by rw [np_step hv hb hxb]; exact i1
    refine .s ⟨hc, fun z v hz => ?_⟩
    rw [getI_set] at hz
    split at hz
    ·rename_i e; subst e; cases hz; exact hc
    ·exact i2 z v hz
theorem both_hasT {α : Type} (t : GTopology) (a b : Int) (hl : t.Routers.length ≤ 1000000) (k : Bool → Option α) : (jn k fun J => bnd (m_topology_Has t a) fun (v1 : Bool) => bif !v1 then J true else bnd (m_topology_Has t b) fun (v2 : Bool) => J (!v2)) = k (!decide (chkT t = 0 ∧ a ∈ ids t ∧ b ∈ ids t)) := by
 simp only [jn]
 rw [top_Has t a hl, top_Has t b hl, bnd_s, has_ids, has_ids]
 by_cases h : chkT t = 0 <;> by_cases h1 : a ∈ ids t <;> by_cases h2 : b ∈ ids t <;> simp [h, h1, h2, bnd]
theorem top_Paths6 (t : GTopology) (a b : Int) (hl : t.Routers.length ≤ 1000000) : m_shortest_Paths t a b = some (pathsT t a b) := by
 unfold m_shortest_Paths
 refine (both_hasT t a b hl _).trans ?_
 by_cases h : chkT t = 0 ∧ a ∈ ids t ∧ b ∈ ids t
 ·have hv := vt_iff.1 h.1
  obtain ⟨g, h1, h2⟩ := read_ok hv
  obtain ⟨l, h3, h4⟩ := sp_bw hv h2 b
  rw [decide_eq_true h]
  simp only [Bool.not_true, cond_false]
  rw [h1, bnd_s, h3, bnd_s]
  have hr := rk_lt hv (x := a) h.2.2
  have := ids_len hv
  obtain ⟨r, r1, r2, _⟩ := top_paths hv h2 h.2.2 h4 fuel a [] (by unfold fuel; omega) fun z v hz => by simp [getI] at hz
  rw [r1, bnd_s, r2, pathsT, if_pos h]
 ·rw [decide_eq_false h, pathsT, if_neg h]; rfl
theorem ref_Paths6 (t : GTopology) (a b : Int) : m_ref06_Paths t a b = some (pathsT t a b) := by
 unfold m_ref06_Paths
 refine (both_has t a b _).trans ?_
 by_cases h : chkT t = 0 ∧ a ∈ ids t ∧ b ∈ ids t
 ·have hv := vt_iff.1 h.1
  have hb := h.2.2
  have hn := hv.nr
  obtain ⟨d, h1, h2⟩ := ref_To hv hb
  rw [decide_eq_true h, pathsT, if_pos h]
  simp only [Bool.not_true, cond_false]
  rw [h1, bnd_s]
  refine Ok.eq ?_
  refine Ok.chk (by simp; omega) ?_
  have idl : (ids t).length = t.Routers.length := by simp [ids]
  refine Ok.whl (fun (s : List Int × Int) => s.1.length = t.Routers.length ∧ 0 ≤ s.2 ∧ s.2 ≤ (t.Routers.length : Int) ∧ ∀ x ∈ ids t, valT t s.1 x = npF t b s.2.toNat x) (fun (s : List Int × Int) => ((t.Routers.length : Int) - s.2).toNat) (s := (List.replicate ((t.Routers.length:Int)).toNat (0:Int), (0:Int))) ⟨by simp, Int.le_refl _, by simp, fun x hx => ?_⟩ (by simp; omega) ?_
  ·have := plc_lt hx
   simp [valT, npF, List.getD_eq_getElem?_getD, this]
  rintro ⟨c, round⟩ Z ⟨j1, j2, j3, j4⟩ hZ
  simp only at j1 j2 j3 j4 hZ ⊢
  refine Ok.cs (fun hr => ?_) fun hr => ?_
  ·have hr : round < (t.Routers.length : Int) := by have := of_decide_eq_true hr; rw [j1] at this; exact this
   refine Ok.chk (by simp; omega) ?_
   refine Ok.forL (fun p (m : List Int) => m.length = t.Routers.length ∧ (∀ i : Nat, i < p.length → m[i]? = ((ids t)[i]?).map fun x => npF t b (round.toNat + 1) x) ∧ ∀ i : Nat, p.length ≤ i → i < m.length → m[i]? = some 0) ?_ _ ⟨by simp [j1], fun i hi => by simp at hi, fun i _ hi => by simp at hi; simp [hi]⟩ ?_
   ·rintro p e r m Z2 hL ⟨k1, k2, k3⟩ hZ2
    have hp : p.length < t.Routers.length := by rw [← j1, hL]; simp
    obtain ⟨R, hR⟩ : ∃ R, t.Routers[p.length]? = some R := ⟨_, List.getElem?_eq_getElem hp⟩
    have hid : (ids t)[p.length]? = some R.ID := by simp [ids, hR]
    have hRi : R.ID ∈ ids t := List.mem_of_getElem? hid
    have done : ∀ m' : List Int, m'.length = m.length → m'[p.length]? = some (npF t b (round.toNat + 1) R.ID) → (∀ i, i ≠ p.length → m'[i]? = m[i]?) → m'.length = t.Routers.length ∧ (∀ i : Nat, i < (p ++ [e]).length → m'[i]? = ((ids t)[i]?).map fun x => npF t b (round.toNat + 1) x) ∧ ∀ i : Nat, (p ++ [e]).length ≤ i → i < m'.length → m'[i]? = some 0 := fun m' e1 e2 e3 => by
     refine ⟨e1.trans k1, fun i hi => ?_, fun i hi hi2 => ?_⟩
     ·by_cases hip : i = p.length
      ·subst hip; rw [e2, hid]; rfl
      ·rw [e3 i hip]; exact k2 i (by simp at hi; omega)
     ·simp at hi
      rw [e3 i (by omega)]; exact k3 i (by omega) (by omega)
    refine Ok.jn (fun m' => m'.length = m.length ∧ m'[p.length]? = some (npF t b (round.toNat + 1) R.ID) ∧ ∀ i, i ≠ p.length → m'[i]? = m[i]?) (fun m' hm' => hZ2 m' (done m' hm'.1 hm'.2.1 hm'.2.2)) fun J hJ => ?_
    refine Ok.bnd (P := fun x => x = R) ⟨R, by unfold elO; rw [if_pos (by omega)]; simpa using hR, rfl⟩ fun x hx => ?_
    subst hx
    refine Ok.cs (fun he => ?_) fun he => ?_
    ·have he := of_decide_eq_true he
     refine Ok.bnd (elO_ok (by omega) (by omega)) fun _ _ => Ok.bnd (set_ok (by omega) (by omega)) fun m2 hm2 => hJ m2 ⟨hm2.2, ?_, fun i hi => ?_⟩
     ·rw [hm2.1]; simp [npF, he, show p.length < m.length by omega]
     ·rw [hm2.1, List.getElem?_set, if_neg (by simpa using fun e => hi e.symm)]
    ·have he := of_decide_eq_false he
     rw [ref_steps hv hb h2, bnd_s]
     refine Ok.forL (L := nextT t b x.ID) (fun q (m' : List Int) => m'.length = m.length ∧ m'[p.length]? = some (q.foldl (fun acc y => mn (acc + npF t b round.toNat y)) 0) ∧ ∀ i, i ≠ p.length → m'[i]? = m[i]?) ?_ _ ⟨rfl, by simpa using k3 p.length (Nat.le_refl _) (by omega), fun _ _ => rfl⟩ ?_
     ·rintro q y r2 m' Z3 hL2 ⟨u1, u2, u3⟩ hZ3
      have hy : y ∈ nextT t b x.ID := by rw [hL2]; simp
      have hyi := next_ids hv hy
      refine Ok.bnd (P := fun v => v = q.foldl (fun acc y => mn (acc + npF t b round.toNat y)) 0) ⟨_, by unfold elO; rw [if_pos (by omega)]; simpa using u2, rfl⟩ fun v hvv => ?_
      subst hvv
      refine Ok.bnd (P := fun v => v = npF t b round.toNat y) ⟨_, by rw [ref_at, if_pos hyi, elO_val j1 hyi, j4 y hyi], rfl⟩ fun v hvv => ?_
      subst hvv
      have e : q.foldl (fun acc y => mn (acc + npF t b round.toNat y)) 0 = mn (0 + (q.map (npF t b round.toNat)).sum) := fold_cap (fun y _ => (npF_rng _ y).1) (by omega) (by omega)
      have hs : ∀ k : List Int, 0 ≤ (k.map (npF t b round.toNat)).sum := by
       intro k
       induction k with
       | nil => simp
       | cons z k ih => simp only [List.map_cons, List.sum_cons]; have := (npF_rng (t := t) (b := b) round.toNat z).1; omega
      have hc : 0 ≤ q.foldl (fun acc y => mn (acc + npF t b round.toNat y)) 0 ∧ q.foldl (fun acc y => mn (acc + npF t b round.toNat y)) 0 ≤ 1000000 := by rw [e]; have := hs q; unfold mn; split <;> omega
      have hqr := npF_rng (t := t) (b := b) round.toNat y
      rw [w64_sm (by omega) (by omega)]
      refine Ok.bnd (set_ok (by omega) (by omega)) fun m2 hm2 => hZ3 m2 ⟨hm2.2.trans u1, ?_, fun i hi => ?_⟩
      ·rw [hm2.1, List.foldl_append]
       simp only [Int.toNat_natCast, List.foldl_cons, List.foldl_nil]
       rw [List.getElem?_set, if_pos rfl, if_pos (by omega)]; rfl
      ·rw [hm2.1, List.getElem?_set, if_neg (by simpa using fun e => hi e.symm)]; exact u3 i hi
     ·rintro m' ⟨u1, u2, u3⟩
      exact hJ m' ⟨u1, by rw [u2, npF, if_neg he], u3⟩
   ·rintro m ⟨k1, k2, k3⟩
    rw [w64_sm (by omega) (by omega)]
    refine hZ (m, round + 1) ⟨k1, by omega, by omega, fun x hx => ?_⟩ (by simp only; omega)
    have hp := plc_lt hx
    have := k2 (plc t x) (by rw [j1]; exact hp)
    rw [show (ids t)[plc t x]? = some x by
     unfold plc
     rw [List.getElem?_eq_getElem (List.idxOf_lt_length_of_mem hx)]
     exact congrArg some (List.getElem_idxOf _)] at this
    unfold valT
    rw [List.getD_eq_getElem?_getD, this]
    simp only [Option.map_some, Option.getD_some]
    rw [show (round + 1).toNat = round.toNat + 1 by omega]
  ·have hr : round = (t.Routers.length : Int) := by have := of_decide_eq_false hr; rw [j1] at this; omega
   rw [ref_at, if_pos h.2.1, elO_val j1 h.2.1, bnd_s, j4 a h.2.1]
   refine .s (np_eq hv hb ?_)
   have := rk_lt hv (x := a) hb
   omega
 ·rw [decide_eq_false h, pathsT, if_neg h]; rfl
end Go.Proofs.Ytflifgcoleknlaa

/- What lies on shortest paths, and whether there are two; the example. No condition but those that stand in each. -/
namespace Go.Proofs.Ytflifgcoleknlaa
set_option linter.all false
open Go
set_option maxRecDepth 100000
noncomputable def avoidsT (t : GTopology) (a b c : Int) : Bool := (dT t a b).isSome && !((dT t a c).isSome && (dT t c b).isSome && decide ((dT t a c).getD 0 + (dT t c b).getD 0 = (dT t a b).getD 0))
theorem dT_getD (t : GTopology) (a b : Int) : 0 ≤ (dT t a b).getD 0 ∧ (dT t a b).getD 0 ≤ 24000 := by
 cases h : dT t a b with
 | none => simp
 | some k => exact dT_small h
theorem top_Avoids6 (t : GTopology) (a b c : Int) : m_shortest_Avoids t a b c = some (avoidsT t a b c) := by
 unfold m_shortest_Avoids
 rw [valid_eq, bnd_s]
 by_cases h : chkT t = 0
 ·have hv := vt_iff.1 h
  obtain ⟨g, h1, h2⟩ := read_ok hv
  obtain ⟨l, h3, h4⟩ := sp_fw hv h2 a
  obtain ⟨l', h5, h6⟩ := sp_bw hv h2 b
  rw [decide_eq_true h]
  simp only [Bool.not_true, cond_false]
  rw [h1, bnd_s, h3, bnd_s, h5, bnd_s, h4, h4, h6]
  have e1 := dT_getD t a c
  have e2 := dT_getD t c b
  have hw : w64 ((dT t a c).getD 0 + (dT t c b).getD 0) = (dT t a c).getD 0 + (dT t c b).getD 0 := w64_sm (by omega) (by omega)
  simp only [hw, avoidsT]
  cases (dT t a b).isSome <;> cases (dT t a c).isSome <;> cases (dT t c b).isSome <;> simp
 ·rw [decide_eq_false h]
  unfold avoidsT
  rw [dT_bad fun e => h e.1]; rfl
theorem ref_Avoids6 (t : GTopology) (a b c : Int) : m_ref06_Avoids t a b c = some (avoidsT t a b c) := by
 unfold m_ref06_Avoids
 rw [ref_Cost6, ref_Cost6, ref_Cost6]
 simp only [bnd_s, costT]
 have e1 := dT_getD t a c
 have e2 := dT_getD t c b
 have hw : w64 ((dT t a c).getD 0 + (dT t c b).getD 0) = (dT t a c).getD 0 + (dT t c b).getD 0 := w64_sm (by omega) (by omega)
 simp only [hw, avoidsT]
 cases (dT t a b).isSome <;> cases (dT t a c).isSome <;> cases (dT t c b).isSome <;> simp
noncomputable def usesT (t : GTopology) (a b : Int) (h : GHop) : Bool := decide (chkT t = 0) && (adjT t h.From h.To && ((dT t a h.From).isSome && ((dT t h.To b).isSome && decide ((dT t a h.From).getD 0 + (priceT t h.From h.To).1 + (dT t h.To b).getD 0 = (dT t a b).getD 0))))
theorem uses_conn {t : GTopology} {a b x y : Int} (hv : Vt t) (h1 : adjT t x y = true) (h2 : (dT t a x).isSome = true) (h3 : (dT t y b).isSome = true) : (dT t a b).isSome = true := by
 obtain ⟨i, hi⟩ := Option.isSome_iff_exists.1 h2
 obtain ⟨j, hj⟩ := Option.isSome_iff_exists.1 h3
 obtain ⟨_, ha, hx, hd1⟩ := dT_ids hi
 obtain ⟨_, hy, hb, hd2⟩ := dT_ids hj
 have hc := lkC_pos hv
 obtain ⟨k, hk, _⟩ := dst_snoc_le hc hd1 (lkC_some.2 ⟨h1, rfl⟩)
 obtain ⟨m, hm, _⟩ := dst_tri hc hk hd2
 rw [dT_in hv ha hb, hm]; rfl
theorem price_all (t : GTopology) (hv : Vt t) (a b : Int) : 0 ≤ (priceT t a b).1 ∧ (priceT t a b).1 ≤ 1000 := by
 cases h : adjT t a b with
 | true => have := price_pos hv h; omega
 | false =>
  have e := price_adj t a b
  rw [h] at e
  unfold priceT at e ⊢
  split at e
  ·rename_i l hl; simp [priceOf] at e
  ·simp
theorem top_Uses6 (t : GTopology) (a b : Int) (h : GHop) (hl : t.Links.length ≤ 1000000) : m_shortest_Uses t a b h = some (usesT t a b h) := by
 unfold m_shortest_Uses
 rw [valid_eq, bnd_s]
 by_cases hc : chkT t = 0
 ·have hv := vt_iff.1 hc
  obtain ⟨g, h1, h2⟩ := read_ok hv
  obtain ⟨l, h3, h4⟩ := sp_fw hv h2 a
  obtain ⟨l', h5, h6⟩ := sp_bw hv h2 b
  rw [decide_eq_true hc]
  simp only [Bool.not_true, cond_false]
  rw [h1, bnd_s, h3, bnd_s, h5, bnd_s, top_Cost t _ _ hl, if_pos hc, bnd_s, price_adj, h4, h4, h6]
  have e1 := dT_getD t a h.From
  have e2 := dT_getD t h.To b
  have e3 := price_all t hv h.From h.To
  have hw1 : w64 ((dT t a h.From).getD 0 + (priceT t h.From h.To).1) = (dT t a h.From).getD 0 + (priceT t h.From h.To).1 := w64_sm (by omega) (by omega)
  have hw2 : w64 ((dT t a h.From).getD 0 + (priceT t h.From h.To).1 + (dT t h.To b).getD 0) = (dT t a h.From).getD 0 + (priceT t h.From h.To).1 + (dT t h.To b).getD 0 := w64_sm (by omega) (by omega)
  simp only [hw1, hw2, usesT, hc, decide_true, Bool.true_and]
 ·rw [decide_eq_false hc]
  unfold usesT
  rw [decide_eq_false hc]; rfl
theorem ref_Uses6 (t : GTopology) (a b : Int) (h : GHop) : m_ref06_Uses t a b h = some (usesT t a b h) := by
 unfold m_ref06_Uses
 rw [ref_Cost, ref_Cost6, ref_Cost6, ref_Cost6]
 simp only [bnd_s, costT]
 by_cases hc : chkT t = 0
 ·have hv := vt_iff.1 hc
  have e1 := dT_getD t a h.From
  have e2 := dT_getD t h.To b
  have e3 := price_all t hv h.From h.To
  have hw1 : w64 ((dT t a h.From).getD 0 + (priceT t h.From h.To).1) = (dT t a h.From).getD 0 + (priceT t h.From h.To).1 := w64_sm (by omega) (by omega)
  have hw2 : w64 ((dT t a h.From).getD 0 + (priceT t h.From h.To).1 + (dT t h.To b).getD 0) = (dT t a h.From).getD 0 + (priceT t h.From h.To).1 + (dT t h.To b).getD 0 := w64_sm (by omega) (by omega)
  rw [if_pos hc]
  simp only [price_adj, hw1, hw2, usesT, hc, decide_true, Bool.true_and]
  cases h1 : adjT t h.From h.To with
  | false => simp
  | true =>
   cases h2 : (dT t a h.From).isSome with
   | false => simp
   | true =>
    cases h3 : (dT t h.To b).isSome with
    | false => simp
    | true => rw [uses_conn hv h1 h2 h3]; simp
 ·simp only [if_neg hc, usesT, decide_eq_false hc, Bool.false_and]
/-! ## no two paths -/
theorem np_pos {t : GTopology} {b : Int} : ∀ (n : Nat) (x : Int), rk t b x ≤ n → (dT t x b).isSome = true → 1 ≤ np t b x := by
 intro n
 induction n with
 | zero =>
  intro x hr hd
  obtain ⟨k, hk⟩ := Option.isSome_iff_exists.1 hd
  obtain ⟨hv, hx, hb, _⟩ := dT_ids hk
  by_cases hxb : x = b
  ·subst hxb; rw [np_self]; omega
  ·obtain ⟨y, hy⟩ := next_ex hk hxb
   have := rk_less hv hy; omega
 | succ n ih =>
  intro x hr hd
  obtain ⟨k, hk⟩ := Option.isSome_iff_exists.1 hd
  obtain ⟨hv, hx, hb, _⟩ := dT_ids hk
  by_cases hxb : x = b
  ·subst hxb; rw [np_self]; omega
  ·obtain ⟨y, hy⟩ := next_ex hk hxb
   rw [np_sum hv hb hxb]
   have h1 : ∀ z ∈ nextT t b x, 1 ≤ np t b z := fun z hz => by
    obtain ⟨m, _, hm, _⟩ := next_less hv hz
    exact ih z (by have := rk_less hv hz; omega) (by rw [hm]; rfl)
   have h2 : ∀ l : List Int, (∀ z ∈ l, 1 ≤ np t b z) → (l.length : Int) ≤ (l.map (np t b)).sum := by
    intro l
    induction l with
    | nil => simp
    | cons z l ih2 => intro h; simp only [List.map_cons, List.sum_cons, List.length_cons]; have := h z (by simp); have := ih2 fun w hw => h w (by simp [hw]); omega
   have := h2 _ h1
   have := List.length_pos_of_mem hy
   unfold mn; split <;> omega
/-! ## the example -/
def exT : GTopology := GTopology.mk ([(GRouter.mk (1:Int) false), (GRouter.mk (2:Int) false), (GRouter.mk (3:Int) false), (GRouter.mk (4:Int) false)] : List GRouter) ([(GLink.mk (1:Int) (2:Int) (1:Int) (1:Int) (0:Int)), (GLink.mk (1:Int) (3:Int) (1:Int) (1:Int) (0:Int)), (GLink.mk (2:Int) (4:Int) (1:Int) (1:Int) (0:Int)), (GLink.mk (3:Int) (4:Int) (1:Int) (1:Int) (0:Int))] : List GLink)
theorem awake6 : m_law06_awake = some true := by
 have h1 : m_shortest_Next exT 1 4 = some [2, 3] := by rw [top_Next6, ← ref_Next6]; kernel_rfl
 have h2 : m_shortest_Route exT 1 4 = some [2, 4] := by rw [top_Route6, ← ref_Route6]; kernel_rfl
 have h3 : m_shortest_Paths exT 1 4 = some 2 := by rw [top_Paths6 _ _ _ (by decide), ← ref_Paths6]; kernel_rfl
 have h4 : m_shortest_Uses exT 1 4 (GHop.mk 1 3) = some true := by rw [top_Uses6 _ _ _ _ (by decide), ← ref_Uses6]; kernel_rfl
 have h5 : m_shortest_Avoids exT 1 4 2 = some false := by rw [top_Avoids6, ← ref_Avoids6]; kernel_rfl
 unfold exT at h1 h2 h3 h4 h5
 unfold m_law06_awake
 rw [h1, bnd_s, ints_self, bnd_s, cond_true, h2, bnd_s, ints_self, bnd_s, cond_true, h3, bnd_s]
 rw [show decide ((2:Int) = 2) = true from rfl, cond_true, h4, bnd_s, cond_true, h5]; rfl
end Go.Proofs.Ytflifgcoleknlaa

/- Routes step by step; costs and components. No condition but those that stand in each. -/
namespace Go.Proofs.Ytflifgcoleknlaa
set_option linter.all false
open Go
theorem dT_conn {t : GTopology} (hv : Vt t) {a b : Int} (ha : a ∈ ids t) (hb : b ∈ ids t) : (dT t a b).isSome = true ↔ Cn t [] a b := by
 rw [dT_in hv ha hb, ← wk_cn]
 constructor
 ·intro h
  obtain ⟨k, hk⟩ := Option.isSome_iff_exists.1 h
  exact ⟨k, (dst_some.1 hk).1⟩
 ·rintro ⟨m, hm⟩
  obtain ⟨k, hk, _⟩ := dst_le (lkC_pos hv) hm
  rw [hk]; rfl
theorem costT_some {t : GTopology} {a b k : Int} (h : dT t a b = some k) : costT t a b = (k, true) := by unfold costT; rw [h]; rfl
theorem costT_none {t : GTopology} {a b : Int} (h : dT t a b = none) : costT t a b = (0, false) := by unfold costT; rw [h]; rfl
theorem conB_eq {t : GTopology} (hv : Vt t) {a b : Int} (ha : a ∈ ids t) (hb : b ∈ ids t) : conB t a b = (dT t a b).isSome := by
 rw [Bool.eq_iff_iff, dT_conn hv ha hb]
 simp [conB, vt_iff.2 hv, ids_has.1 ha, ids_has.1 hb]
theorem dT_tri {t : GTopology} {a b c i j : Int} (h1 : dT t a c = some i) (h2 : dT t c b = some j) : ∃ k, dT t a b = some k ∧ k ≤ i + j := by
 obtain ⟨hv, ha, _, hd1⟩ := dT_ids h1
 obtain ⟨_, _, hb, hd2⟩ := dT_ids h2
 obtain ⟨k, hk, hle⟩ := dst_tri (lkC_pos hv) hd1 hd2
 exact ⟨k, by rw [dT_in hv ha hb]; exact hk, hle⟩
theorem dT_edge {t : GTopology} (hv : Vt t) {a b w : Int} (h : lkC t a b = some w) : ∃ k, dT t a b = some k ∧ k ≤ w := by
 obtain ⟨k, hk, hle⟩ := dst_edge (lkC_pos hv) h
 obtain ⟨ha, hb⟩ := lkC_ids hv h
 exact ⟨k, by rw [dT_in hv ha hb]; exact hk, hle⟩
theorem dT_step {t : GTopology} (hv : Vt t) {a y b w m : Int} (h : lkC t a y = some w) (h' : dT t y b = some m) : ∃ k, dT t a b = some k ∧ k ≤ w + m := by
 obtain ⟨_, hy, hb, hd⟩ := dT_ids h'
 obtain ⟨k, hk, hle⟩ := dst_step_le (lkC_pos hv) h hd
 exact ⟨k, by rw [dT_in hv (lkC_ids hv h).1 hb]; exact hk, hle⟩
theorem dT_first {t : GTopology} {a b k : Int} (h : dT t a b = some k) (hne : a ≠ b) : ∃ y w m, lkC t a y = some w ∧ dT t y b = some m ∧ k = w + m := by
 obtain ⟨hv, ha, hb, hd⟩ := dT_ids h
 obtain ⟨y, w, m, h1, h2, h3⟩ := dst_first hd hne
 exact ⟨y, w, m, h1, by rw [dT_in hv (lkC_ids hv h1).2 hb]; exact h2, h3⟩
theorem router_in {t : GTape} {g : GTopology} (h : TapeOk t) (hg : 1 ≤ g.Routers.length ∧ g.Routers.length ≤ 1000000) : Ok (m_mk_Tape_Router t g 0) (fun p => p.1 ∈ ids g ∧ TapeOk p.2) := by
 unfold m_mk_Tape_Router
 refine Ok.jn (fun s : Bool × List Int × Int => s.1 = false ∧ TapeOk (GTape.mk s.2.1 s.2.2)) (fun s hs => ?_) fun J1 hJ1 => ?_
 ·obtain ⟨v, m1, m2⟩ := s
  obtain ⟨h1, h2⟩ := hs
  simp only at h1 h2 ⊢
  subst h1
  rw [cond_false]
  refine Ok.bnd (next_ok h2 (by omega)) fun q hq => ?_
  exact Ok.bnd (elO_ok hq.1.1 (hq.1.2.1 (by omega))) fun e he => Ok.s ⟨List.mem_map.2 ⟨e, he.1, rfl⟩, hq.2⟩
 ·refine Ok.cs (fun hc => by simp at hc) fun _ => hJ1 _ ⟨by simp; intro e; simp [e] at hg, h⟩
/-! ## a route, step by step -/
theorem rt_out {t : GTopology} {b : Int} : ∀ (n : Nat) (x : Int) (out : List Int), rk t b x < n → (dT t x b).isSome = true → rtF (nextT t b) b n x out = out ++ rtF (nextT t b) b n x []
 | 0, _, _, h, _ => by omega
 | n + 1, x, out, h, hd => by
  obtain ⟨k, hk⟩ := Option.isSome_iff_exists.1 hd
  obtain ⟨hv, _⟩ := dT_ids hk
  simp only [rtF]
  by_cases hx : x = b
  ·rw [if_pos hx, if_pos hx, List.append_nil]
  ·rw [if_neg hx, if_neg hx]
   cases hn : nextT t b x with
   | nil => obtain ⟨y, hy⟩ := next_ex hk hx; rw [hn] at hy; cases hy
   | cons y r =>
    have hy : y ∈ nextT t b x := by rw [hn]; simp
    have hr := rk_less hv hy
    obtain ⟨m, _, hm, _⟩ := next_less hv hy
    have hyd : (dT t y b).isSome = true := by rw [hm]; rfl
    simp only
    rw [rt_out n y (out ++ [y]) (by omega) hyd, rt_out n y ([] ++ [y]) (by omega) hyd]
    simp
theorem rt_stable {t : GTopology} {b : Int} : ∀ (n m : Nat) (x : Int) (out : List Int), rk t b x < n → rk t b x < m → (dT t x b).isSome = true → rtF (nextT t b) b n x out = rtF (nextT t b) b m x out
 | 0, _, _, _, h, _, _ => by omega
 | _ + 1, 0, _, _, _, h, _ => by omega
 | n + 1, m + 1, x, out, h1, h2, hd => by
  obtain ⟨k, hk⟩ := Option.isSome_iff_exists.1 hd
  obtain ⟨hv, _⟩ := dT_ids hk
  simp only [rtF]
  by_cases hx : x = b
  ·rw [if_pos hx, if_pos hx]
  ·rw [if_neg hx, if_neg hx]
   cases hn : nextT t b x with
   | nil => rfl
   | cons y r =>
    have hy : y ∈ nextT t b x := by rw [hn]; simp
    have hr := rk_less hv hy
    obtain ⟨k, _, hm, _⟩ := next_less hv hy
    exact rt_stable n m y _ (by omega) (by omega) (by rw [hm]; rfl)
theorem route_self (t : GTopology) (b : Int) : routeT t b b = [] := by simp [routeT, rtF]
theorem route_cons {t : GTopology} {x b k : Int} (h : dT t x b = some k) (hne : x ≠ b) : ∃ y r, nextT t b x = y :: r ∧ routeT t x b = y :: routeT t y b := by
 obtain ⟨hv, hx, hb, _⟩ := dT_ids h
 cases hn : nextT t b x with
 | nil => obtain ⟨y, hy⟩ := next_ex h hne; rw [hn] at hy; cases hy
 | cons y r =>
  refine ⟨y, r, rfl, ?_⟩
  have hy : y ∈ nextT t b x := by rw [hn]; simp
  have hr := rk_less hv hy
  obtain ⟨m, _, hm, _⟩ := next_less hv hy
  have hyd : (dT t y b).isSome = true := by rw [hm]; rfl
  have h1 := rk_lt hv (x := x) hb
  have h2 := ids_len hv
  unfold routeT
  rw [show (30 : Nat) = 29 + 1 from rfl, rtF, if_neg hne, hn]
  simp only
  rw [rt_out 29 y ([] ++ [y]) (by omega) hyd, rt_stable 29 (29 + 1) y [] (by omega) (by omega) hyd]
  simp
/-- along the route -/
theorem route_ind {t : GTopology} {b : Int} (P : Int → Prop) (h0 : P b) (hs : ∀ x y k w m r, dT t x b = some k → x ≠ b → nextT t b x = y :: r → routeT t x b = y :: routeT t y b → lkC t x y = some w → dT t y b = some m → w + m = k → P y → P x) :
  ∀ (n : Nat) (x : Int), rk t b x ≤ n → (dT t x b).isSome = true → P x := by
 intro n
 induction n with
 | zero =>
  intro x hr hd
  obtain ⟨k, hk⟩ := Option.isSome_iff_exists.1 hd
  by_cases hx : x = b
  ·rw [hx]; exact h0
  ·obtain ⟨y, hy⟩ := next_ex hk hx
   have := rk_less (dT_ids hk).1 hy; omega
 | succ n ih =>
  intro x hr hd
  obtain ⟨k, hk⟩ := Option.isSome_iff_exists.1 hd
  by_cases hx : x = b
  ·rw [hx]; exact h0
  ·obtain ⟨y, r, h1, h2⟩ := route_cons hk hx
   have hv := (dT_ids hk).1
   have hy : y ∈ nextT t b x := by rw [h1]; simp
   obtain ⟨w, m, k', q1, q2, q3, q4⟩ := (next_mem hv).1 hy
   rw [hk] at q3; cases q3
   exact hs x y k w m r hk hx h1 h2 q1 q2 q4 (ih y (by have := rk_less hv hy; omega) (by rw [q2]; rfl))
theorem route_end {t : GTopology} {b x : Int} (h : (dT t x b).isSome = true) : (x :: routeT t x b).getLast? = some b := by
 refine route_ind (fun x => (x :: routeT t x b).getLast? = some b) (by simp [route_self]) (fun x y k w m r _ _ _ h2 _ _ _ ih => ?_) _ x (Nat.le_refl _) h
 rw [h2, List.getLast?_cons_cons]; exact ih
theorem route_len {t : GTopology} {b x : Int} (h : (dT t x b).isSome = true) : (routeT t x b).length ≤ rk t b x := by
 refine route_ind (fun x => (routeT t x b).length ≤ rk t b x) (by simp [route_self]) (fun x y k w m r h0 _ h1 h2 _ _ _ ih => ?_) _ x (Nat.le_refl _) h
 have := rk_less (b := b) (x := x) (y := y) (dT_ids h0).1 (by rw [h1]; simp)
 rw [h2, List.length_cons]; omega
theorem route_cost {t : GTopology} {b x k : Int} (h : dT t x b = some k) : m_law06_length t x (routeT t x b) = some k := by
 have hv := (dT_ids h).1
 unfold m_law06_length
 have key : ∀ x, (dT t x b).isSome = true → ∀ (j : Nat) (n : Int), 0 ≤ n → n + (dT t x b).getD 0 ≤ 1000000 → forI (routeT t x b) j (fun (j1 : Int) (e1 : Int) (Z1 : (Int × Int) → Option Int) (sg : Int × Int) => match sg with | (vfrom_1, n_1) => bnd (m_ref05_Price t vfrom_1 e1) fun (vx_1 : Int × Bool) => bif !vx_1.2 then some (-1:Int) else Z1 (e1, w64 (n_1 + vx_1.1))) (fun (sg : Int × Int) => match sg with | (vfrom_1, n_1) => some n_1) (x, n) = some (n + (dT t x b).getD 0) := by
  intro x hx
  refine route_ind (fun x => ∀ (j : Nat) (n : Int), 0 ≤ n → n + (dT t x b).getD 0 ≤ 1000000 → forI (routeT t x b) j (fun (j1 : Int) (e1 : Int) (Z1 : (Int × Int) → Option Int) (sg : Int × Int) => match sg with | (vfrom_1, n_1) => bnd (m_ref05_Price t vfrom_1 e1) fun (vx_1 : Int × Bool) => bif !vx_1.2 then some (-1:Int) else Z1 (e1, w64 (n_1 + vx_1.1))) (fun (sg : Int × Int) => match sg with | (vfrom_1, n_1) => some n_1) (x, n) = some (n + (dT t x b).getD 0)) ?_ ?_ _ x (Nat.le_refl _) hx
  ·intro j n h0 h1
   have : (dT t b b).getD 0 = 0 := by
    cases hd : dT t b b with
    | none => rfl
    | some q =>
     obtain ⟨hv, hb, _, _⟩ := dT_ids hd
     rw [dT_self hv hb] at hd; cases hd; rfl
   rw [route_self, this]; simp [forI]
  ·intro x y k w m r q1 q2 q3 q4 q5 q6 q7 ih j n h0 h1
   obtain ⟨p1, p2⟩ := lkC_some.1 q5
   have hw := lkC_le hv q5
   have hk := dT_small q1
   rw [q4]
   show (bnd (m_ref05_Price t x y) fun (vx_1 : Int × Bool) => bif !vx_1.2 then some (-1:Int) else forI (routeT t y b) (j + 1) _ _ (y, w64 (n + vx_1.1))) = _
   rw [ref_price, bnd_s, price_adj, p1]
   rw [q1, Option.getD_some] at h1
   have hm := dT_small q6
   rw [Bool.not_true, cond_false, p2, w64_sm (by omega) (by omega), ih (j + 1) (n + w) (by omega) (by rw [q6, Option.getD_some]; omega), q6, q1]
   simp only [Option.getD_some]
   rw [show n + w + m = n + k by omega]
 have hk := dT_small h
 have := key x (by rw [h]; rfl) 0 0 (by omega) (by rw [h, Option.getD_some]; omega)
 rw [h] at this
 simpa using this
theorem route_rest {t : GTopology} {b x : Int} (h : (dT t x b).isSome = true) : ∀ (i : Nat) (z : Int), (routeT t x b)[i]? = some z → routeT t z b = (routeT t x b).drop (i + 1) := by
 refine route_ind (fun x => ∀ (i : Nat) (z : Int), (routeT t x b)[i]? = some z → routeT t z b = (routeT t x b).drop (i + 1)) (fun i z hz => by simp [route_self] at hz) (fun x y k w m r _ _ _ h2 _ _ _ ih i z hz => ?_) _ x (Nat.le_refl _) h
 rw [h2] at hz ⊢
 cases i with
 | zero => simp at hz; subst hz; simp
 | succ i => simp at hz; rw [List.drop_succ_cons]; exact ih i z hz
end Go.Proofs.Ytflifgcoleknlaa

/- How many paths there can be; paths without a router. No condition but those that stand in each. -/
namespace Go.Proofs.Ytflifgcoleknlaa
set_option linter.all false
open Go
def fct : Nat → Int
 | 0 => 1
 | n + 1 => ((n : Int) + 1) * fct n
theorem fct_pos : ∀ n, 1 ≤ fct n
 | 0 => by simp [fct]
 | n + 1 => by
  have := fct_pos n
  simp only [fct]
  have h : (1 : Int) * 1 ≤ ((n : Int) + 1) * fct n := Int.mul_le_mul (by omega) this (by omega) (by omega)
  omega
theorem fct_mono {n m : Nat} (h : n ≤ m) : fct n ≤ fct m := by
 induction m with
 | zero => have : n = 0 := by omega
           rw [this]; exact Int.le_refl _
 | succ m ih =>
  by_cases hn : n = m + 1
  ·rw [hn]; exact Int.le_refl _
  ·have h1 := ih (by omega)
   have h2 := fct_pos m
   simp only [fct]
   have h : 1 * fct m ≤ ((m : Int) + 1) * fct m := Int.mul_le_mul_of_nonneg_right (by omega) (by omega)
   omega
theorem sum_le {f : Int → Int} {M : Int} (hM : 0 ≤ M) : ∀ l : List Int, (∀ y ∈ l, f y ≤ M) → (l.map f).sum ≤ (l.length : Int) * M
 | [], _ => by simp
 | y :: l, h => by
  simp only [List.map_cons, List.sum_cons, List.length_cons]
  have h1 := h y (by simp)
  have h2 := sum_le hM l fun z hz => h z (by simp [hz])
  rw [show ((l.length + 1 : Nat) : Int) * M = (l.length : Int) * M + M by rw [Int.natCast_add, Int.add_mul]; simp]
  omega
theorem np_fact {t : GTopology} (hv : Vt t) {b : Int} (hb : b ∈ ids t) : ∀ (n : Nat) (x : Int), rk t b x ≤ n → np t b x ≤ fct (rk t b x) ∧ (x ≠ b → ((nextT t b x).map (np t b)).sum ≤ fct (rk t b x)) := by
 intro n
 induction n with
 | zero =>
  intro x hr
  have hn : nextT t b x = [] := by
   cases hn : nextT t b x with
   | nil => rfl
   | cons y r => have := rk_less hv (b := b) (x := x) (y := y) (by rw [hn]; simp); omega
  have h1 := fct_pos (rk t b x)
  refine ⟨?_, fun _ => by rw [hn]; simp; omega⟩
  by_cases hx : x = b
  ·rw [hx, np_self]; rw [hx] at h1; exact h1
  ·rw [np_sum hv hb hx, hn]; simp [mn]; omega
 | succ n ih =>
  intro x hr
  have h1 := fct_pos (rk t b x)
  have hs : x ≠ b → ((nextT t b x).map (np t b)).sum ≤ fct (rk t b x) := fun hx => by
   by_cases h0 : nextT t b x = []
   ·rw [h0]; simp; omega
   ·obtain ⟨y0, hy0⟩ : ∃ y, y ∈ nextT t b x := by
     cases hn : nextT t b x with
     | nil => exact absurd hn h0
     | cons y r => exact ⟨y, by simp⟩
    have hr0 := rk_less hv hy0
    obtain ⟨k, hk⟩ : ∃ k, rk t b x = k + 1 := ⟨rk t b x - 1, by omega⟩
    have hle := sum_le (f := np t b) (M := fct k) (by have := fct_pos k; omega) (nextT t b x) fun y hy => by
     have h2 := rk_less hv hy
     have h3 := (ih y (by omega)).1
     have h4 := fct_mono (n := rk t b y) (m := k) (by omega)
     omega
    have hl := next_rk hv b x
    rw [hk] at hl ⊢
    simp only [fct]
    have : ((nextT t b x).length : Int) * fct k ≤ ((k : Int) + 1) * fct k := Int.mul_le_mul_of_nonneg_right (by omega) (by have := fct_pos k; omega)
    omega
  refine ⟨?_, hs⟩
  by_cases hx : x = b
  ·rw [hx, np_self]; rw [hx] at h1; exact h1
  ·rw [np_sum hv hb hx]
   have := hs hx
   unfold mn; split <;> omega
/-- in a small topology the sum is not cut -/
theorem np_exact {t : GTopology} (hv : Vt t) (hs : (ids t).length ≤ 8) {b x : Int} (hb : b ∈ ids t) (hx : x ≠ b) : np t b x = ((nextT t b x).map (np t b)).sum := by
 have h1 := (np_fact hv hb _ x (Nat.le_refl _)).2 hx
 have h2 := rk_lt hv (x := x) hb
 have h3 := fct_mono (n := rk t b x) (m := 7) (by omega)
 have h4 : fct 7 = 5040 := by decide
 rw [np_sum hv hb hx]
 unfold mn; rw [if_pos (by omega)]
/-! ## without a router -/
theorem woR_valid {t : GTopology} (hv : Vt t) (c : Int) : Vt (woR t c) := hv.wo _
theorem price_find {t : GTopology} (hv : Vt t) {c x y : Int} (hx : x ≠ c) (hy : y ≠ c) (h : adjT t x y = true) : priceT (woR t c) x y = priceT t x y := by
 have h2 : adjT (woR t c) x y = true := woR_adj.2 ⟨h, hx, hy⟩
 obtain ⟨l, h1, h3⟩ := adj_iff.1 h2
 have he : eitherB l x y = true := by simp [eitherB]; exact h3
 have hm : l ∈ t.Links := by
  have : l ∈ t.Links.filter fun l => !goneB (GFailure.mk [] [c]) l := h1
  exact (List.mem_filter.1 this).1
 rw [price_eq (woR_valid hv c) h1 he, price_eq hv hm he]
theorem lkC_wo {t : GTopology} (hv : Vt t) {c x y k : Int} : lkC (woR t c) x y = some k ↔ lkC t x y = some k ∧ x ≠ c ∧ y ≠ c := by
 rw [lkC_some, lkC_some]
 constructor
 ·rintro ⟨h1, h2⟩
  obtain ⟨g1, g2, g3⟩ := woR_adj.1 h1
  exact ⟨⟨g1, by rw [← price_find hv g2 g3 g1]; exact h2⟩, g2, g3⟩
 ·rintro ⟨⟨h1, h2⟩, g2, g3⟩
  exact ⟨woR_adj.2 ⟨h1, g2, g3⟩, by rw [price_find hv g2 g3 h1]; exact h2⟩
theorem wk_wo {t : GTopology} (hv : Vt t) {c x y m : Int} (h : Wk (lkC (woR t c)) x y m) : Wk (lkC t) x y m := by
 induction h with
 | nil => exact .nil
 | snoc _ hk ih => exact .snoc ih ((lkC_wo hv).1 hk).1
/-- costs do not fall -/
theorem dT_wo {t : GTopology} (hv : Vt t) {c x b m : Int} (h : dT (woR t c) x b = some m) : ∃ k, dT t x b = some k ∧ k ≤ m := by
 obtain ⟨_, hx, hb, hd⟩ := dT_ids h
 obtain ⟨k, hk, hle⟩ := dst_le (lkC_pos hv) (wk_wo hv (dst_some.1 hd).1)
 exact ⟨k, by rw [dT_in hv (woR_ids.1 hx).1 (woR_ids.1 hb).1]; exact hk, hle⟩
/-- a shortest path through c -/
def Thr (t : GTopology) (b c x : Int) : Prop := ∃ i j, dT t x c = some i ∧ dT t c b = some j ∧ dT t x b = some (i + j)
/-- no shortest path through c: all stays -/
theorem wo_same {t : GTopology} (hv : Vt t) {b c : Int} (hbc : b ≠ c) : ∀ (n : Nat) (x k : Int), rk t b x ≤ n → dT t x b = some k → x ≠ c → ¬ Thr t b c x →
  dT (woR t c) x b = some k ∧ nextT (woR t c) b x = nextT t b x ∧ np (woR t c) b x = np t b x := by
 intro n
 induction n with
 | zero =>
  intro x k hr hd hxc hT
  by_cases hxb : x = b
  ·subst hxb
   obtain ⟨_, hx, _, _⟩ := dT_ids hd
   have hv2 := woR_valid hv c
   rw [dT_self hv hx] at hd; cases hd
   exact ⟨dT_self hv2 (woR_ids.2 ⟨hx, hxc⟩), by rw [next_self hv2, next_self hv], by rw [np_self, np_self]⟩
  ·obtain ⟨y, hy⟩ := next_ex hd hxb
   have := rk_less hv hy; omega
 | succ n ih =>
  intro x k hr hd hxc hT
  have hv2 := woR_valid hv c
  by_cases hxb : x = b
  ·subst hxb
   obtain ⟨_, hx, _, _⟩ := dT_ids hd
   rw [dT_self hv hx] at hd; cases hd
   exact ⟨dT_self hv2 (woR_ids.2 ⟨hx, hxc⟩), by rw [next_self hv2, next_self hv], by rw [np_self, np_self]⟩
  ·obtain ⟨_, hx, hb, _⟩ := dT_ids hd
   have hb2 : b ∈ ids (woR t c) := woR_ids.2 ⟨hb, hbc⟩
   -- what follows keeps off c
   have fol : ∀ y ∈ nextT t b x, y ≠ c ∧ ¬ Thr t b c y := fun y hy => by
    obtain ⟨w, m, k', q1, q2, q3, q4⟩ := (next_mem hv).1 hy
    rw [hd] at q3; cases q3
    constructor
    ·intro e
     subst e
     obtain ⟨i, hi, hle⟩ := dT_edge hv q1
     obtain ⟨s, hs, hle2⟩ := dT_tri hi q2
     rw [hd] at hs; cases hs
     exact hT ⟨i, m, hi, q2, by rw [hd]; congr 1; omega⟩
    ·rintro ⟨i, j, e1, e2, e3⟩
     rw [q2] at e3; cases e3
     obtain ⟨s, hs, hle⟩ := dT_step hv q1 e1
     obtain ⟨u, hu, hle2⟩ := dT_tri hs e2
     rw [hd] at hu; cases hu
     exact hT ⟨s, j, hs, e2, by rw [hd]; congr 1; omega⟩
   have stp : ∀ y ∈ nextT t b x, ∃ m, dT t y b = some m ∧ dT (woR t c) y b = some m ∧ np (woR t c) b y = np t b y := fun y hy => by
    obtain ⟨m, _, hm, _⟩ := next_less hv hy
    obtain ⟨f1, f2⟩ := fol y hy
    obtain ⟨g1, _, g3⟩ := ih y m (by have := rk_less hv hy; omega) hm f1 f2
    exact ⟨m, hm, g1, g3⟩
   obtain ⟨y0, hy0⟩ := next_ex hd hxb
   obtain ⟨w0, m0, k0, p1, p2, p3, p4⟩ := (next_mem hv).1 hy0
   rw [hd] at p3; cases p3
   obtain ⟨m0', e1, e2, _⟩ := stp y0 hy0
   rw [p2] at e1; cases e1
   obtain ⟨k', hk', hle'⟩ := dT_step hv2 ((lkC_wo hv).2 ⟨p1, hxc, (fol y0 hy0).1⟩) e2
   obtain ⟨k'', hk'', hle''⟩ := dT_wo hv hk'
   rw [hd] at hk''; cases hk''
   have hkk : k' = k := by omega
   subst hkk
   have hnext : nextT (woR t c) b x = nextT t b x := by
    refine lt_unique (next_nodup hv2 b x) (next_nodup hv b x) fun y => ?_
    constructor
    ·intro hy
     obtain ⟨w, m, k2, q1, q2, q3, q4⟩ := (next_mem hv2).1 hy
     rw [hk'] at q3; cases q3
     obtain ⟨q5, _, _⟩ := (lkC_wo hv).1 q1
     obtain ⟨m2, hm2, hle2⟩ := dT_wo hv q2
     obtain ⟨s, hs, hle3⟩ := dT_step hv q5 hm2
     rw [hd] at hs; cases hs
     exact (next_mem hv).2 ⟨w, m2, _, q5, hm2, hd, by omega⟩
    ·intro hy
     obtain ⟨w, m, k2, q1, q2, q3, q4⟩ := (next_mem hv).1 hy
     obtain ⟨m', r1, r2, _⟩ := stp y hy
     rw [q2] at r1; cases r1
     rw [hd] at q3; cases q3
     exact (next_mem hv2).2 ⟨w, m, _, (lkC_wo hv).2 ⟨q1, hxc, (fol y hy).1⟩, r2, hk', q4⟩
   refine ⟨hk', hnext, ?_⟩
   rw [np_step hv2 hb2 hxb, np_step hv hb hxb, hnext]
   refine foldl_eq fun acc y hy => ?_
   obtain ⟨_, _, _, e⟩ := stp y hy
   rw [e]
theorem sum_sub {f g : Int → Int} {q : Int → Bool} : ∀ l : List Int, (∀ y ∈ l, 0 ≤ g y ∧ (q y = true → f y ≤ g y)) → ((l.filter q).map f).sum ≤ (l.map g).sum ∧ ∀ y ∈ l, ((q y = true → f y < g y) ∧ (q y = false → 0 < g y)) → ((l.filter q).map f).sum < (l.map g).sum
 | [], _ => by simp
 | z :: l, h => by
  obtain ⟨i1, i2⟩ := sum_sub l fun y hy => h y (by simp [hy])
  obtain ⟨h0, h1⟩ := h z (by simp)
  cases hq : q z with
  | true =>
   rw [List.filter_cons_of_pos hq]
   simp only [List.map_cons, List.sum_cons]
   have := h1 hq
   refine ⟨by omega, fun y hy hs => ?_⟩
   rcases List.mem_cons.1 hy with rfl | hy
   ·have := hs.1 hq; omega
   ·have := i2 y hy hs; omega
  | false =>
   rw [List.filter_cons_of_neg (by simp [hq])]
   simp only [List.map_cons, List.sum_cons]
   refine ⟨by omega, fun y hy hs => ?_⟩
   rcases List.mem_cons.1 hy with rfl | hy
   ·have := hs.2 hq; omega
   ·have := i2 y hy hs; omega
/-- fewer paths, where the cost stays -/
theorem wo_fewer {t : GTopology} (hv : Vt t) (hs : (ids t).length ≤ 8) {b c : Int} (hbc : b ≠ c) : ∀ (n : Nat) (x k : Int), rk t b x ≤ n → dT t x b = some k → dT (woR t c) x b = some k →
  np (woR t c) b x ≤ np t b x ∧ (Thr t b c x → np (woR t c) b x < np t b x) := by
 have hs2 : (ids (woR t c)).length ≤ 8 := by
  have h1 : (ids (woR t c)).Nodup := (ids_lt (woR_valid hv c)).imp fun h => Int.ne_of_lt h
  have := nodup_len h1 (b := ids t) fun x hx => (woR_ids.1 hx).1
  omega
 intro n
 induction n with
 | zero =>
  intro x k hr hd hd2
  by_cases hxb : x = b
  ·subst hxb
   refine ⟨by rw [np_self, np_self]; exact Int.le_refl _, ?_⟩
   rintro ⟨i, j, e1, e2, e3⟩
   obtain ⟨_, hx, _, _⟩ := dT_ids hd
   rw [dT_self hv hx] at e3
   have := dT_small e1
   have := dT_small e2
   have : j = 0 := by have := Option.some.inj e3; omega
   subst this
   exact absurd (dT_zero e2).symm hbc
  ·obtain ⟨y, hy⟩ := next_ex hd hxb
   have := rk_less hv hy; omega
 | succ n ih =>
  intro x k hr hd hd2
  have hv2 := woR_valid hv c
  by_cases hxb : x = b
  ·subst hxb
   refine ⟨by rw [np_self, np_self]; exact Int.le_refl _, ?_⟩
   rintro ⟨i, j, e1, e2, e3⟩
   obtain ⟨_, hx, _, _⟩ := dT_ids hd
   rw [dT_self hv hx] at e3
   have := dT_small e1
   have := dT_small e2
   have : j = 0 := by have := Option.some.inj e3; omega
   subst this
   exact absurd (dT_zero e2).symm hbc
  ·obtain ⟨_, hx, hb, _⟩ := dT_ids hd
   obtain ⟨_, hx2, hb2, _⟩ := dT_ids hd2
   have hxc := (woR_ids.1 hx2).2
   -- the next ones without c are some of those with it
   have sub : ∀ y, y ∈ nextT (woR t c) b x → y ∈ nextT t b x ∧ ∃ m, dT t y b = some m ∧ dT (woR t c) y b = some m := fun y hy => by
    obtain ⟨w, m, k2, q1, q2, q3, q4⟩ := (next_mem hv2).1 hy
    rw [hd2] at q3; cases q3
    obtain ⟨q5, _, _⟩ := (lkC_wo hv).1 q1
    obtain ⟨m2, hm2, hle2⟩ := dT_wo hv q2
    obtain ⟨s, hs, hle3⟩ := dT_step hv q5 hm2
    rw [hd] at hs; cases hs
    have : m2 = m := by omega
    subst this
    exact ⟨(next_mem hv).2 ⟨w, m2, _, q5, hm2, hd, q4⟩, m2, hm2, q2⟩
   have hfil : nextT (woR t c) b x = (nextT t b x).filter fun y => decide (y ∈ nextT (woR t c) b x) := by
    refine lt_unique (next_nodup hv2 b x) ((next_nodup hv b x).sublist List.filter_sublist) fun y => ?_
    rw [List.mem_filter, decide_eq_true_eq]
    exact ⟨fun h => ⟨(sub y h).1, h⟩, fun h => h.2⟩
   have hsum := sum_sub (f := np (woR t c) b) (g := np t b) (q := fun y => decide (y ∈ nextT (woR t c) b x)) (nextT t b x) fun y hy => ⟨(np_rng b y).1, fun hq => by
    obtain ⟨_, m, h1, h2⟩ := sub y (of_decide_eq_true hq)
    exact (ih y m (by have := rk_less hv hy; omega) h1 h2).1⟩
   rw [← hfil] at hsum
   rw [np_exact hv2 hs2 hb2 hxb, np_exact hv hs hb hxb]
   refine ⟨hsum.1, ?_⟩
   rintro ⟨i, j, e1, e2, e3⟩
   rw [hd] at e3; cases e3
   obtain ⟨y, w, m, f1, f2, f3⟩ := dT_first e1 hxc
   obtain ⟨s, hs', hle⟩ := dT_tri f2 e2
   obtain ⟨u, hu, hle2⟩ := dT_step hv f1 hs'
   rw [hd] at hu; cases hu
   have hsm : s = m + j := by omega
   subst hsm
   have hy : y ∈ nextT t b x := (next_mem hv).2 ⟨w, m + j, _, f1, hs', hd, by omega⟩
   refine hsum.2 y hy ⟨fun hq => ?_, fun _ => ?_⟩
   ·obtain ⟨_, m', h1, h2⟩ := sub y (of_decide_eq_true hq)
    exact (ih y m' (by have := rk_less hv hy; omega) h1 h2).2 ⟨m, j, f2, e2, hs'⟩
   ·exact np_pos _ y (Nat.le_refl _) (by rw [hs']; rfl)
end Go.Proofs.Ytflifgcoleknlaa
