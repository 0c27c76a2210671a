/- Plain: different adverts are written differently; of two adverts of a router one is newer. No condition but those that stand in each. -/
import Derived.Test.YtmcjffllahcclaaGreatP8W
namespace Go.Proofs.YtmcjffllahcclaaGreat
set_option linter.all false
open Go

structure Holds (N T : Nat) (F : List (Nat × Nat)) : Prop where
  w : widF F ≤ T
  b : ∀ p ∈ F, p.1 < 2 ^ p.2
  v : N = valF 0 F * 2 ^ (T - widF F)
theorem valF_lin : ∀ (a : Nat) (F : List (Nat × Nat)), valF a F = a * 2 ^ widF F + valF 0 F
  | a, [] => by simp [valF, widF]
  | a, (v, w) :: r => by
    simp only [valF, widF]
    rw [valF_lin (a * 2 ^ w + v) r, valF_lin (0 * 2 ^ w + v) r, Nat.add_mul, Nat.mul_assoc, ← Nat.pow_add, Nat.zero_mul, Nat.zero_add]
    omega
theorem valF_lt : ∀ (F : List (Nat × Nat)), (∀ p ∈ F, p.1 < 2 ^ p.2) → valF 0 F < 2 ^ widF F
  | [], _ => by simp [valF, widF]
  | (v, w) :: r, h => by
    simp only [valF, widF]
    rw [valF_lin]
    have h1 := valF_lt r fun p hp => h p (by simp [hp])
    have h2 : v < 2 ^ w := h (v, w) (by simp)
    have h3 : (v + 1) * 2 ^ widF r ≤ 2 ^ w * 2 ^ widF r := Nat.mul_le_mul_right _ h2
    rw [Nat.add_mul, Nat.one_mul, ← Nat.pow_add] at h3
    simp only [Nat.zero_mul, Nat.zero_add]
    omega
theorem Holds.peel {N T v w : Nat} {r : List (Nat × Nat)} (h : Holds N T ((v, w) :: r)) : v = N / 2 ^ (T - w) ∧ Holds (N % 2 ^ (T - w)) (T - w) r := by
  have hw : w + widF r ≤ T := h.w
  have hr : ∀ p ∈ r, p.1 < 2 ^ p.2 := fun p hp => h.b p (by simp [hp])
  have hv := h.v
  have e : valF 0 ((v, w) :: r) = v * 2 ^ widF r + valF 0 r := by
    show valF (0 * 2 ^ w + v) r = _
    rw [valF_lin, Nat.zero_mul, Nat.zero_add]
  have hx := valF_lt r hr
  have e2 : T - widF ((v, w) :: r) = T - w - widF r := by show T - (w + widF r) = _; omega
  rw [e, e2, Nat.add_mul, Nat.mul_assoc, ← Nat.pow_add, show widF r + (T - w - widF r) = T - w by omega] at hv
  have hlt : valF 0 r * 2 ^ (T - w - widF r) < 2 ^ (T - w) := by
    have : 2 ^ (T - w) = 2 ^ widF r * 2 ^ (T - w - widF r) := by rw [← Nat.pow_add, show widF r + (T - w - widF r) = T - w by omega]
    rw [this]; exact Nat.mul_lt_mul_of_pos_right hx (Nat.two_pow_pos _)
  refine ⟨?_, ⟨by omega, hr, ?_⟩⟩
  · rw [hv, Nat.mul_comm, Nat.mul_add_div (Nat.two_pow_pos _), Nat.div_eq_of_lt hlt, Nat.add_zero]
  · rw [hv, Nat.mul_comm, Nat.mul_add_mod, Nat.mod_eq_of_lt hlt]
theorem Holds.same {N T v v' w : Nat} {r r' : List (Nat × Nat)} (h : Holds N T ((v, w) :: r)) (h' : Holds N T ((v', w) :: r')) : v = v' ∧ ∃ N' T', Holds N' T' r ∧ Holds N' T' r' := by
  obtain ⟨a, b⟩ := h.peel
  obtain ⟨c, d⟩ := h'.peel
  exact ⟨a.trans c.symm, _, _, b, d⟩
theorem same_R : ∀ (l m : List GReach) (r r' : List (Nat × Nat)) (N T : Nat), l.length = m.length → (∀ x ∈ l, 0 ≤ x.Neighbour ∧ 0 ≤ x.Cost ∧ 0 ≤ x.Capacity) → (∀ x ∈ m, 0 ≤ x.Neighbour ∧ 0 ≤ x.Cost ∧ 0 ≤ x.Capacity) →
    Holds N T (l.flatMap fieldsR ++ r) → Holds N T (m.flatMap fieldsR ++ r') → l = m ∧ ∃ N' T', Holds N' T' r ∧ Holds N' T' r'
  | [], [], r, r', N, T, _, _, _, h, h' => ⟨rfl, N, T, h, h'⟩
  | [], _ :: _, _, _, _, _, h, _, _, _, _ => by simp at h
  | _ :: _, [], _, _, _, _, h, _, _, _, _ => by simp at h
  | x :: l, y :: m, r, r', N, T, hl, hx, hy, h, h' => by
    obtain ⟨e1, _, _, h, h'⟩ := Holds.same h h'
    obtain ⟨e2, _, _, h, h'⟩ := Holds.same h h'
    obtain ⟨e3, _, _, h, h'⟩ := Holds.same h h'
    obtain ⟨e, q⟩ := same_R l m r r' _ _ (by simpa using hl) (fun z hz => hx z (by simp [hz])) (fun z hz => hy z (by simp [hz])) h h'
    refine ⟨?_, q⟩
    have a1 := hx x (by simp); have a2 := hy y (by simp)
    rw [e]; congr 1
    obtain ⟨xn, xc, xp⟩ := x
    obtain ⟨yn, yc, yp⟩ := y
    simp only at *
    rw [GReach.mk.injEq]; omega
theorem codeN_inj {a b : Int} (ha : lenB a = true) (hb : lenB b = true) (h : codeN a = codeN b) : a = b := by
  simp only [lenB, Bool.or_eq_true, decide_eq_true_eq] at ha hb
  rcases ha with rfl | rfl | rfl | rfl <;> rcases hb with rfl | rfl | rfl | rfl <;> simp [codeN] at h ⊢
theorem same_C : ∀ (l m : List GClaim) (r r' : List (Nat × Nat)) (N T : Nat), l.length = m.length → (∀ x ∈ l, 0 ≤ x.Subdomain ∧ 0 ≤ x.ID ∧ lenB x.Length = true) → (∀ x ∈ m, 0 ≤ x.Subdomain ∧ 0 ≤ x.ID ∧ lenB x.Length = true) →
    Holds N T (l.flatMap fieldsC ++ r) → Holds N T (m.flatMap fieldsC ++ r') → l = m
  | [], [], _, _, _, _, _, _, _, _, _ => rfl
  | [], _ :: _, _, _, _, _, h, _, _, _, _ => by simp at h
  | _ :: _, [], _, _, _, _, h, _, _, _, _ => by simp at h
  | x :: l, y :: m, r, r', N, T, hl, hx, hy, h, h' => by
    obtain ⟨e1, _, _, h, h'⟩ := Holds.same h h'
    obtain ⟨e2, _, _, h, h'⟩ := Holds.same h h'
    obtain ⟨e3, _, _, h, h'⟩ := Holds.same h h'
    have e := same_C l m r r' _ _ (by simpa using hl) (fun z hz => hx z (by simp [hz])) (fun z hz => hy z (by simp [hz])) h h'
    have a1 := hx x (by simp); have a2 := hy y (by simp)
    have e4 := codeN_inj a1.2.2 a2.2.2 e3
    rw [e]; congr 1
    obtain ⟨xn, xc, xp⟩ := x
    obtain ⟨yn, yc, yp⟩ := y
    simp only at *
    rw [GClaim.mk.injEq]; omega
theorem codeN_lt (l : Int) : codeN l < 4 := by unfold codeN; split; omega; split; omega; split <;> omega
theorem enc_inj {a b : GAdvert} (ha : validB a = true) (hb : validB b = true) (h : encA a = encA b) : a = b := by
  have facts : ∀ {a : GAdvert}, validB a = true → ∃ c, c < 65536 ∧ SR (encA a) (widF (bodyF a ++ [(c, 16)])) (valF 0 (bodyF a ++ [(c, 16)])) ∧ (0 ≤ a.Router ∧ 0 ≤ a.Seq) ∧
      (∀ x ∈ a.Links, 0 ≤ x.Neighbour ∧ 0 ≤ x.Cost ∧ 0 ≤ x.Capacity) ∧ (∀ x ∈ a.Claims, 0 ≤ x.Subdomain ∧ 0 ≤ x.ID ∧ lenB x.Length = true) ∧ ∀ p ∈ bodyF a ++ [(c, 16)], p.1 < 2 ^ p.2 := by
    intro a ha
    obtain ⟨l, c, h1, _, hc, h3⟩ := enc_full ha
    have hl : encA a = l := by unfold encA; rw [h1]
    have hb := ha
    simp only [validB, inB, Bool.and_eq_true, decide_eq_true_eq, List.all_eq_true, goodR, goodC] at hb
    obtain ⟨⟨⟨⟨⟨r1, r2⟩, ⟨q1, q2⟩⟩, l1⟩, ⟨gl, _⟩⟩, ⟨c1, gc, _⟩⟩ := hb
    refine ⟨c, hc, hl ▸ h3, by omega, fun x hx => ?_, fun x hx => ?_, ?_⟩
    · have := gl x hx; omega
    · have := gc x hx; exact ⟨by omega, by omega, this.2⟩
    · intro p hp
      simp only [bodyF, headF, List.mem_append, List.mem_cons, List.not_mem_nil, or_false, List.mem_flatMap] at hp
      rcases hp with (((rfl | rfl | rfl | rfl) | ⟨x, hx, hp⟩) | rfl | ⟨x, hx, hp⟩) | rfl
      · show a.Router.toNat < 128; omega
      · show a.Seq.toNat < 1048576; omega
      · show (bif a.Capable then 1 else 0) < 2; cases a.Capable <;> decide
      · show a.Links.length < 32; omega
      · have := gl x hx
        simp only [fieldsR, List.mem_cons, List.not_mem_nil, or_false] at hp
        rcases hp with rfl | rfl | rfl
        · show x.Neighbour.toNat < 128; omega
        · show x.Cost.toNat < 1024; omega
        · show x.Capacity.toNat < 1024; omega
      · show a.Claims.length < 16; omega
      · have := gc x hx
        simp only [fieldsC, List.mem_cons, List.not_mem_nil, or_false] at hp
        rcases hp with rfl | rfl | rfl
        · show x.Subdomain.toNat < 8; omega
        · show x.ID.toNat < 512; omega
        · show codeN x.Length < 4; exact codeN_lt _
      · exact hc
  obtain ⟨c, hc, s1, n1, l1, k1, b1⟩ := facts ha
  obtain ⟨d, hd, s2, n2, l2, k2, b2⟩ := facts hb
  rw [← h] at s2
  have H1 : Holds (numB (encA a)) (8 * (encA a).length) (bodyF a ++ [(c, 16)]) := ⟨s1.le, b1, s1.num⟩
  have H2 : Holds (numB (encA a)) (8 * (encA a).length) (bodyF b ++ [(d, 16)]) := ⟨s2.le, b2, s2.num⟩
  unfold bodyF headF at H1 H2
  simp only [List.append_assoc, List.cons_append, List.nil_append] at H1 H2
  obtain ⟨e1, _, _, H1, H2⟩ := H1.same H2
  obtain ⟨e2, _, _, H1, H2⟩ := H1.same H2
  obtain ⟨e3, _, _, H1, H2⟩ := H1.same H2
  obtain ⟨e4, _, _, H1, H2⟩ := H1.same H2
  obtain ⟨e5, _, _, H1, H2⟩ := same_R _ _ _ _ _ _ e4 l1 l2 H1 H2
  obtain ⟨e6, _, _, H1, H2⟩ := H1.same H2
  have e7 := same_C _ _ _ _ _ _ e6 k1 k2 H1 H2
  obtain ⟨ar, as_, ac, al, ak⟩ := a
  obtain ⟨br, bs_, bc, bl, bk⟩ := b
  simp only at *
  rw [GAdvert.mk.injEq]
  refine ⟨by omega, by omega, ?_, e5, e7⟩
  cases ac <;> cases bc <;> simp at e3 <;> rfl
theorem bytesU_inj : ∀ {l m : List Int}, (∀ b ∈ l, 0 ≤ b ∧ b < 256) → (∀ b ∈ m, 0 ≤ b ∧ b < 256) → bytesU l = bytesU m → l = m
  | [], [], _, _, _ => rfl
  | [], _ :: _, _, _, h => by simp [bytesU] at h
  | _ :: _, [], _, _, h => by simp [bytesU] at h
  | x :: l, y :: m, hl, hm, h => by
    simp only [bytesU, List.map_cons, List.cons.injEq] at h
    have h1 := hl x (by simp); have h2 := hm y (by simp)
    have e : x.toNat = y.toNat := by
      have := congrArg UInt8.toNat h.1
      simp only [UInt8.toNat_ofNat'] at this
      omega
    rw [bytesU_inj (fun b hb => hl b (by simp [hb])) (fun b hb => hm b (by simp [hb])) h.2, show x = y by omega]
theorem encA_bytes {a : GAdvert} (h : validB a = true) : ∀ b ∈ encA a, 0 ≤ b ∧ b < 256 := by
  obtain ⟨l, c, h1, _, hc, h3⟩ := enc_full h
  have hl : encA a = l := by unfold encA; rw [h1]
  rw [hl]; exact h3.by_
theorem verA_tie {a b : GAdvert} (ha : validB a = true) (hb : validB b = true) (h1 : verA a b = false) (h2 : verA b a = false) : a = b := by
  simp only [verA, Bool.or_eq_false_iff, Bool.and_eq_false_iff, decide_eq_false_iff_not] at h1 h2
  have hs : a.Seq = b.Seq := by omega
  have g1 : ¬ 0 < cmpU (bytesU (encA a)) (bytesU (encA b)) := by rcases h1.2 with q | q; exact absurd hs q; exact q
  have g2 : ¬ 0 < cmpU (bytesU (encA b)) (bytesU (encA a)) := by rcases h2.2 with q | q; exact absurd hs.symm q; exact q
  rw [cmpU_swap] at g2
  exact enc_inj ha hb (bytesU_inj (encA_bytes ha) (encA_bytes hb) (cmpU_eq (by omega)))
/-! ## Merge as an operation -/
def mxA (x y : GAdvert) : GAdvert := bif verA y x then y else x
theorem mxA_comm {x y : GAdvert} (hx : validB x = true) (hy : validB y = true) : mxA x y = mxA y x := by
  unfold mxA
  cases h1 : verA y x
  · cases h2 : verA x y
    · exact verA_tie hx hy h2 h1
    · rfl
  · rw [verA_asymm h1]; rfl
theorem mxA_assoc (x y z : GAdvert) : mxA (mxA x y) z = mxA x (mxA y z) := by
  unfold mxA
  cases h1 : verA y x
  · simp only [cond_false]
    cases h2 : verA z y
    · rw [verA_ntrans h2 h1]; simp [h1]
    · simp
  · simp only [cond_true]
    cases h2 : verA z y
    · simp [h1]
    · simp only [cond_true]
      cases h3 : verA z x
      · rw [verA_ntrans h3 (verA_asymm h1)] at h2; cases h2
      · rfl
theorem mxA_idem (x y : GAdvert) : mxA (mxA x y) x = mxA x y := by
  unfold mxA
  cases h1 : verA y x
  · simp [verA_irrefl]
  · simp [verA_asymm h1]
theorem mx_eq {d e : GDatabase} (hd : Vd d) (he : Vd e) {r : Int} {x y : GAdvert} (h1 : look d r = some x) (h2 : look e r = some y) : mx (some x) y = mxA x y := by
  obtain ⟨a1, a2⟩ := (look_some hd).1 h1
  obtain ⟨b1, b2⟩ := (look_some he).1 h2
  simp only [mx, mxA, newerA, hd.ok x a1, he.ok y b1, Bool.true_and]
  rw [a2, b2]; simp
def mxO (o p : Option GAdvert) : Option GAdvert := match o, p with | some x, some y => some (mxA x y) | some x, none => some x | none, p => p
theorem look_mg {a b : GDatabase} (ha : Vd a) (hb : Vd b) (r : Int) : look (mergeT a b) r = mxO (look a r) (look b r) := by
  rw [look_merge ha hb]
  cases h1 : look a r with
  | none => cases h2 : look b r <;> rfl
  | some x =>
    cases h2 : look b r with
    | none => rfl
    | some y => simp only [mx_eq ha hb h1 h2, mxO]
theorem merge_comm {a b : GDatabase} (ha : Vd a) (hb : Vd b) : mergeT a b = mergeT b a := look_ext (ha.merge hb) (hb.merge ha) fun r => by
  rw [look_mg ha hb, look_mg hb ha]
  cases h1 : look a r with
  | none => cases h2 : look b r <;> rfl
  | some x =>
    cases h2 : look b r with
    | none => rfl
    | some y =>
      simp only [mxO]
      rw [mxA_comm (ha.ok x ((look_some ha).1 h1).1) (hb.ok y ((look_some hb).1 h2).1)]
theorem merge_assoc {a b c : GDatabase} (ha : Vd a) (hb : Vd b) (hc : Vd c) : mergeT (mergeT a b) c = mergeT a (mergeT b c) := look_ext ((ha.merge hb).merge hc) (ha.merge (hb.merge hc)) fun r => by
  rw [look_mg (ha.merge hb) hc, look_mg ha (hb.merge hc), look_mg ha hb, look_mg hb hc]
  cases look a r <;> cases look b r <;> cases look c r <;> simp only [mxO, mxA_assoc]
theorem merge_idem {a b : GDatabase} (ha : Vd a) (hb : Vd b) : mergeT (mergeT a b) a = mergeT a b := look_ext ((ha.merge hb).merge ha) (ha.merge hb) fun r => by
  rw [look_mg (ha.merge hb) ha, look_mg ha hb]
  cases h1 : look a r with
  | none => cases look b r <;> rfl
  | some x =>
    cases look b r with
    | none => simp [mxO, mxA, verA_irrefl]
    | some y => simp only [mxO, mxA_idem]
end Go.Proofs.YtmcjffllahcclaaGreat
