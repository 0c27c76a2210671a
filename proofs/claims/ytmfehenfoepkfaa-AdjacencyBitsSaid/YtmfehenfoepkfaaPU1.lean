/- Plain: the law zy is true. No condition. -/
import Derived.Test.YtmfehenfoepkfaaPYL
import Derived.Test.YtmfehenfoepkfaaDL1
namespace Go.Proofs.Ytmfehenfoepkfaa
set_option linter.all false
open Go
theorem adm {a b : bq} (h : ltH a b = true) : ltH b a = false := by
 cases hb : ltH b a
 ·rfl
 ·simp [ltH] at h hb; omega
theorem acq {l m : List bq} (hl : l.Pairwise fun a b => ltH a b = true) (hm : m.Pairwise fun a b => ltH a b = true) (h : ∀ x, x ∈ l ↔ x ∈ m) : l = m := by
 have irr : ∀ a : bq, ltH a a = false := fun a => by simp [ltH]
 have nd : ∀ {l : List bq}, (l.Pairwise fun a b => ltH a b = true) → l.Nodup := fun h => h.imp fun {a b} hab e => by subst e; rw [irr] at hab; cases hab
 refine wD (cf := fun a b => if ltH a b then -1 else 0) ((List.perm_ext_iff_of_nodup (nd hl) (nd hm)).2 h) (hm.imp fun {a b} h => by rw [if_pos h]; decide) (hl.imp fun {a b} h => ?_)
 rw [if_neg (by rw [adm h]; decide)]; decide
theorem abk {e : aB} (hv : Ve e) {k k' : aG} (h : (dz e k).2 = true) (h' : (dz e k').2 = true) (hb : (dz e k).1 = (dz e k').1) : k = k' := by
 have hT : ∀ k : aG, dz e k = gY e k.gQ k.lI k.to_ := fun k => by unfold gY dz; rw [if_pos (jV.2 hv)]
 have e1 : gY e k.gQ k.lI k.to_ = ((dz e k).1, true) := by rw [← hT, ← h]
 have e2 : gY e k'.gQ k'.lI k'.to_ = ((dz e k').1, true) := by rw [← hT, ← h']
 obtain ⟨_, a, ha, a1, a2, a3, a4⟩ := zw e1
 obtain ⟨_, b, hb2, b1, b2, b3, b4⟩ := zw e2
 have := hv.abi ha hb2 (by omega)
 subst this
 cases k; cases k'
 simp only at *
 subst a1 a2 a3 b1 b2 b3
 rfl
/-- a tree of the tape in the full aaH -/
structure sV (e : aB) (x : bB) (u : List Int) : Prop where
 v : Vr x
 asc : u.Pairwise (· < ·)
 sub : ∀ r ∈ u, r ∈ jH x
 fnd : ∀ k ∈ dP x u, (dz e k).2 = true
theorem aaN {g : aj} (hv : Vt g) {e : aB} (he : ku g 64 = (e, 0)) {r k q : Int} (hk : (r, k, q) ∈ dJ g) : Ve e ∧ (dz e (aG.mk r k q)).2 = true := by
 obtain ⟨h1, h2, _⟩ := yX (n := 64) hv (by rw [he])
 rw [he] at h1 h2
 have h1 : Ef g e := h1
 refine ⟨h1.v, ?_⟩
 obtain ⟨i, hi⟩ := List.getElem?_of_mem hk
 have hm := List.mem_of_getElem? (abg 0 _ i r k q hi)
 have he2 : e = aB.mk 64 (fc 0 (dJ g)) := (Prod.mk.inj h2).1
 have := abj h1.v (a := ai.mk ((0 + i : Nat) : Int) r k q) (by rw [he2]; exact hm)
 unfold gY at this
 rw [if_pos (jV.2 h1.v)] at this
 show (p6 e r k q).2 = true
 rw [this]
theorem abl {g : aj} (hv : Vt g) {e : aB} (he : ku g 64 = (e, 0)) {root : Int} (hr : root ∈ ids g) {x : bB} (hx : Tn g root x) {u : List Int} (hu : u.Sublist (jH x)) : sV e x u := by
 have hV := hx.v hr
 refine ⟨hV, (adb x).sublist hu, fun r h => hu.subset h, fun k hk => ?_⟩
 rcases List.mem_append.1 hk with hk | hk
 ·obtain ⟨r, hr2, rfl⟩ := List.mem_map.1 hk
  have hid : r ∈ ids g := by
   rcases (aiu hV).1 (hu.subset hr2) with h | ⟨h, hh, h2⟩
   ·rw [h, hx.rt]; exact hr
   ·rw [← h2]; exact nt hv (hx.adj h hh)
  exact (aaN hv he ((xE hv).2 ⟨hid, .inl ⟨rfl, rfl⟩⟩)).2
 ·obtain ⟨h, hh, rfl⟩ := List.mem_map.1 hk
  exact (aaN hv he ((xE hv).2 ⟨nt hv (rV (hx.adj h hh)), .inr ⟨rfl, hx.adj h hh⟩⟩)).2
theorem sV.bits {e : aB} (hE : Ve e) {x : bB} {u : List Int} (h : sV e x u) : wm e x u = ((dP x u).foldl (orK e) 0, 0) := by
 unfold wm
 rw [if_pos (jV.2 hE), if_pos (yl.2 h.v)]
 have h1 : gf (fun a b : Int => decide (a < b)) u = true := jo (h.asc.imp fun h => by simpa using h)
 have h2 : u.any (fun r => !decide (r ∈ jH x)) = false := any_false.2 fun r hr => by simpa using h.sub r hr
 have h3 : (dP x u).any (fun k => !(dz e k).2) = false := any_false.2 fun k hk => by simpa using h.fnd k hk
 rw [h1, h2, h3]; rfl
theorem sV.val {e : aB} (hE : Ve e) {x : bB} {u : List Int} (h : sV e x u) : B64 ((dP x u).foldl (orK e) 0) ∧ ∀ i, tbi ((dP x u).foldl (orK e) 0) i = true ↔ ∃ k ∈ dP x u, (dz e k).1 = (i : Int) := by
 obtain ⟨h1, h2⟩ := wo (e := e) (dP x u) 0 qi fun k hk => l7 hE (h.fnd k hk)
 refine ⟨h1, fun i => ?_⟩
 rw [h2, oF]; simp
theorem acr {e : aB} {x : bB} {u : List Int} (h : sV e x u) : (dP x u).Nodup := by
 unfold dP
 rw [List.nodup_append]
 refine ⟨List.pairwise_map.2 (h.asc.imp fun {a b} hab he => ?_), List.pairwise_map.2 (h.v.dup.imp fun {a b} hab he => ?_), fun a ha b hb he => ?_⟩
 ·simp [mX] at he; omega
 ·simp [mY] at he; exact hab he.2
 ·obtain ⟨r, _, rfl⟩ := List.mem_map.1 ha
  obtain ⟨q, _, rfl⟩ := List.mem_map.1 hb
  simp [mX, mY] at he
theorem aft {bs : List Nat} (hn : bs.Nodup) (k : Nat) : (bs.filter fun b => decide (b < k + 1)).length = (bs.filter fun b => decide (b < k)).length + if k ∈ bs then 1 else 0 := by
 induction bs with
 | nil => simp
 | cons b r ih =>
  rw [List.nodup_cons] at hn
  have ih := ih hn.2
  simp only [List.filter_cons, List.mem_cons]
  by_cases h1 : b < k
  ·have h2 : b < k + 1 := by omega
   have h3 : ¬ k = b := by omega
   simp only [h1, h2, decide_true, if_true, List.length_cons, h3, false_or, ih]; omega
  ·by_cases h2 : b = k
   ·subst h2
    have h3 : b < b + 1 := by omega
    simp only [h1, h3, decide_true, decide_false, if_true, List.length_cons, true_or]
    rw [ih, if_neg hn.1]; simp
   ·have h3 : ¬ b < k + 1 := by omega
    have h4 : ¬ k = b := by omega
    simp only [h1, h3, decide_false, h4, false_or]
    simpa using ih
theorem aiy {e : aB} (hE : Ve e) {x y : bB} {u v : List Int} (hx : sV e x u) (hy : sV e y v) (hr : x.bL = y.bL) : (dP x u).foldl (orK e) 0 = (dP y v).foldl (orK e) 0 ↔ x = y ∧ u = v := by
 constructor
 ·intro h
  have sub : ∀ {x y : bB} {u v : List Int}, sV e x u → sV e y v → (dP x u).foldl (orK e) 0 = (dP y v).foldl (orK e) 0 → ∀ k ∈ dP x u, k ∈ dP y v := fun {x y u v} hx hy h k hk => by
   have hb := l7 hE (hx.fnd k hk)
   have h1 := ((hx.val hE).2 (dz e k).1.toNat).2 ⟨k, hk, by omega⟩
   rw [h] at h1
   obtain ⟨k', hk', h2⟩ := ((hy.val hE).2 _).1 h1
   have := abk hE (hx.fnd k hk) (hy.fnd k' hk') (by omega)
   subst this; exact hk'
  have su : ∀ {x y : bB} {u v : List Int}, (∀ k ∈ dP x u, k ∈ dP y v) → (∀ r ∈ u, r ∈ v) ∧ ∀ h ∈ x.Links, h ∈ y.Links := fun {x y u v} h => by
   constructor
   ·intro r hr
    rcases List.mem_append.1 (h (mX r) (List.mem_append_left _ (List.mem_map.2 ⟨r, hr, rfl⟩))) with hk | hk
    ·obtain ⟨q, hq, e⟩ := List.mem_map.1 hk
     simp [mX] at e; subst e; exact hq
    ·obtain ⟨q, hq, e⟩ := List.mem_map.1 hk
     simp [mX, mY] at e
   ·intro p hp
    rcases List.mem_append.1 (h (mY p) (List.mem_append_right _ (List.mem_map.2 ⟨p, hp, rfl⟩))) with hk | hk
    ·obtain ⟨q, hq, e⟩ := List.mem_map.1 hk
     simp [mX, mY] at e
    ·obtain ⟨q, hq, e⟩ := List.mem_map.1 hk
     cases p; cases q
     simp [mY] at e; obtain ⟨rfl, rfl⟩ := e; exact hq
  obtain ⟨a1, a2⟩ := su (sub hx hy h)
  obtain ⟨b1, b2⟩ := su (sub hy hx h.symm)
  have e1 : u = v := vq hx.asc hy.asc fun r => ⟨a1 r, b1 r⟩
  have e2 : x.Links = y.Links := acq hx.v.asc hy.v.asc fun r => ⟨a2 r, b2 r⟩
  refine ⟨?_, e1⟩
  cases x; cases y; simp only at hr e2; rw [hr, e2]
 ·rintro ⟨rfl, rfl⟩; rfl
theorem aaV (a b : bq) : rL a b = true ↔ a = b := ace a b
theorem adn (a b : bB) : ∃ c : Bool, (c = true ↔ a = b) ∧ jj a b = some c := by
 unfold jj
 by_cases h1 : a.bL = b.bL
 ·by_cases h2 : a.Links.length = b.Links.length
  ·obtain ⟨c, hc, he⟩ := rY (a := a.Links) (b := b.Links) aaV (some true) (some false) (K := fun (_ : Unit) => some true) (B := fun (j1 : Int) (e1 : bq) (Z1 : Unit → Option Bool) (_ : Unit) => bnd (elO b.Links (j1 : Int)) fun (e_1 : bq) => bif !(rL e1 e_1) then some false else Z1 ()) rfl (fun _ _ _ => rfl) h2
   refine ⟨c, ?_, ?_⟩
   ·rw [hc]; cases a; cases b; simp only at h1; subst h1; simp
   ·simp only [h1, h2, decide_true, Bool.not_true, Bool.or_false, cond_false]
    refine Eq.trans he ?_
    cases c <;> rfl
  ·refine ⟨false, ?_, ?_⟩
   ·simp only [Bool.false_eq_true, false_iff]; intro hh; exact h2 (by rw [hh])
   ·have h2' : ¬ ((a.Links.length : Int) = b.Links.length) := by omega
    simp [h2']
 ·refine ⟨false, ?_, ?_⟩
  ·simp only [Bool.false_eq_true, false_iff]; intro hh; exact h1 (by rw [hh])
  ·simp [h1]
theorem uF (t : List Int) : iF t = some true := by
 unfold iF
 refine Ok.eq (Ok.bnd (zJ t) fun s hs => Ok.bnd (mW hs (by omega)) fun p hp => ?_)
 obtain ⟨g, t1⟩ := p
 obtain ⟨hg, ht⟩ := hp
 have hg : Vn g 7 := hg
 have ht : bP t1 := ht
 have hv : Vt g := hg.v
 have hnr := hv.nr
 have hn1 := hg.n.1
 simp only [aaK, aL]
 have hfull : ku g 64 = (aB.mk 0 [], 3) ∨ ∃ e, ku g 64 = (e, 0) := by
  unfold ku
  rw [if_pos (pq.2 hv)]
  have : nG 64 = true := rfl
  rw [this]
  simp only [Bool.not_true, cond_false]
  split
  ·exact .inl rfl
  ·exact .inr ⟨_, rfl⟩
 rcases hfull with hf | ⟨e, hf⟩
 ·rw [hf]
  simp only [mZ, aL]
  exact ⟨true, rfl, rfl⟩
 rw [hf]
 have hE : Ve e := by
  have := (yX (n := 64) hv (by rw [hf])).1.v
  rw [hf] at this; exact this
 have anN : ¬ ((g.ay.length : Int) = 0) := by omega
 rw [decide_eq_true rfl, decide_eq_false anN]
 simp only [Bool.not_true, Bool.or_false, cond_false]
 refine wI ht (by omega) fun q r hq hr hid => ?_
 refine Ok.bnd (xD hq hv) fun x hx => Ok.bnd (xD hx.2 hv) fun y hy => ?_
 have hxl := hx.1.len
 have hyl := hy.1.len
 rw [lY x.1 (by omega), aL]
 have agb : ∀ (l : List Int) (hl : l.length ≤ 1000) {K : List Int × List Int × Int → Option Bool} (L A : _), bP (aC.mk L A) → (∀ u L A, u.Sublist l → bP (aC.mk L A) → Ok (K (u, L, A)) (fun r => r = true)) →
   Ok (bn l 0 (fun (j1 : Int) (e1 : Int) (Z1 : ((List Int) × (List Int) × Int) → Option Bool) (sg : (List Int) × (List Int) × Int) => match sg with | (u_1, m_1, m_2) => jn (fun (sg : (List Int) × (List Int) × Int) => match sg with | (u_2, m_3, m_4) => Z1 (u_2, m_3, m_4)) fun J1 => bnd (aK (aC.mk m_1 m_2) (2:Int)) fun (cI : Int × aC) => bif decide (cI.1 = (0:Int)) then bnd (dV u_1 ([e1] : List Int)) fun (l_1 : List Int) => J1 (l_1, cI.2.L, cI.2.At) else J1 (u_1, cI.2.L, cI.2.At)) K ([], L, A)) (fun r => r = true) := by
  intro l hl K L A hT hK
  refine Ok.xy (L := l) (fun p (sg : List Int × List Int × Int) => sg.1.Sublist p ∧ bP (aC.mk sg.2.1 sg.2.2)) (fun p x r s Z hL hI hZ => ?_) _ ⟨List.Sublist.refl [], hT⟩ (fun s hs => hK s.1 s.2.1 s.2.2 hs.1 hs.2)
  obtain ⟨u, L1, A1⟩ := s
  obtain ⟨i1, i2⟩ := hI
  have i1 : u.Sublist p := i1
  unfold jn
  refine Ok.bnd (f_n i2 (by omega)) fun a ha => Ok.cs (fun _ => ?_) fun _ => hZ _ ⟨i1.trans (List.sublist_append_left p [x]), ha.2⟩
  refine Ok.bnd (iR (by have := i1.length_le; have : l.length = p.length + (r.length + 1) := by rw [hL]; simp
                        simp; omega)) fun m hm => hZ _ ⟨?_, ha.2⟩
  rw [hm.1]; exact i1.append (List.Sublist.refl [x])
 have hrx := wj x.1
 have hry := wj y.1
 refine agb (jH x.1) (by omega) _ _ hy.2 fun u L2 A2 hu hT2 => ?_
 simp only [lY y.1 (show y.1.Links.length ≤ 90000 by omega), aL]
 refine agb (jH y.1) (by omega) _ _ hT2 fun v L3 A3 hw hT3 => ?_
 have hnx := abl hv hf hid hx.1 hu
 have hny := abl hv hf hid hy.1 hw
 have hel := hE.small
 have hul := hu.length_le
 have hvl := hw.length_le
 simp only [xH e x.1 u (by omega) (by omega) (by omega), xH e y.1 v (by omega) (by omega) (by omega), aL, hnx.bits hE, hny.bits hE]
 simp only [decide_true, Bool.not_true, Bool.or_false, cond_false]
 obtain ⟨vb, vt⟩ := hnx.val hE
 generalize hbs : (dP x.1 u).map (fun k => (dz e k).1.toNat) = bs
 have hbn : bs.Nodup := by
  rw [← hbs]
  refine List.pairwise_map.2 ((acr hnx).imp_of_mem fun {a b} ha hb hab he => hab ?_)
  have h1 := l7 hE (hnx.fnd a ha); have h2 := l7 hE (hnx.fnd b hb)
  exact abk hE (hnx.fnd a ha) (hnx.fnd b hb) (by omega)
 have hbl : bs.length = u.length + x.1.Links.length := by rw [← hbs]; simp [dP]
 have hmem : ∀ i : Nat, tbi ((dP x.1 u).foldl (orK e) 0) i = true ↔ i ∈ bs := fun i => by
  rw [vt, ← hbs, List.mem_map]
  constructor
  ·rintro ⟨k, hk, h⟩; exact ⟨k, hk, by rw [h]; simp⟩
  ·rintro ⟨k, hk, h⟩
   have := l7 hE (hnx.fnd k hk)
   exact ⟨k, hk, by omega⟩
 have hb64 : ∀ b ∈ bs, b < 64 := fun b hb => by
  rw [← hbs] at hb
  obtain ⟨k, hk, rfl⟩ := List.mem_map.1 hb
  have := l7 hE (hnx.fnd k hk); omega
 have hrt : x.1.bL = y.1.bL := by rw [hx.1.rt, hy.1.rt]
 have heq := aiy hE hnx hny hrt
 have hfl : ∀ k : Nat, (bs.filter fun b => decide (b < k)).length ≤ bs.length := fun k => List.length_filter_le _ _
 refine Ok.jh (fun j (n : Int) => n = ((bs.filter fun b => decide (b < j.toNat)).length : Int)) 0 64 ?_ ?_ _ _ _ rfl (by omega) (by omega) (by rw [show (bs.filter fun b => decide (b < (0:Int).toNat)) = [] from List.filter_eq_nil_iff.2 (fun b _ => by simp)]; rfl)
 ·rintro j n Z h1 h2 hn hZ
  have ew : IntKind.wrap .u64 j = j := wrap_u64 h1 (by omega)
  rw [ew]
  refine Ok.chk (by simp; omega) ?_
  rw [shr1 vb h1 h2]
  have hf2 := hfl j.toNat
  have e1 : (if tbi ((dP x.1 u).foldl (orK e) 0) j.toNat = true then (1:Int) else 0) = ((if j.toNat ∈ bs then 1 else 0 : Nat) : Int) := by
   by_cases h : j.toNat ∈ bs
   ·rw [if_pos h, if_pos ((hmem _).2 h)]; rfl
   ·rw [if_neg h, if_neg (fun hh => h ((hmem _).1 hh))]; rfl
  have hstep := aft hbn j.toNat
  have hc1 : (if j.toNat ∈ bs then 1 else 0 : Nat) ≤ 1 := by split <;> omega
  rw [e1]
  generalize (if j.toNat ∈ bs then 1 else 0 : Nat) = c at hstep hc1
  rw [dA (n := (c : Int)) (by omega) (by omega), dA (by omega) (by omega)]
  refine hZ _ ?_
  rw [show (j + 1).toNat = j.toNat + 1 by omega, hstep, hn]
  simp
 ·rintro j n h1 h2 hn
  have hj : j = 64 := h2 (by omega)
  subst hj
  have hall : (bs.filter fun b => decide (b < (64:Int).toNat)) = bs := List.filter_eq_self.2 fun b hb => by have := hb64 b hb; simpa using this
  rw [hall, hbl] at hn
  have e1 : n = w64 ((x.1.Links.length : Int) + (u.length : Int)) := by rw [dA (by omega) (by omega)]; omega
  rw [decide_eq_true e1, cond_true]
  obtain ⟨c, hc, hs⟩ := adn x.1 y.1
  rw [hs]
  by_cases hl : x.1.Links.length = y.1.Links.length
  ·rw [decide_eq_true (by omega), cond_true, aL]
   cases c
   ·have hne : ¬ (dP x.1 u).foldl (orK e) 0 = (dP y.1 v).foldl (orK e) 0 := fun hh => by
     have := hc.2 (heq.1 hh).1; cases this
    rw [decide_eq_false hne, mZ]; exact ⟨true, rfl, rfl⟩
   ·have hxy := hc.1 rfl
    rw [cond_true, ac8, aL]
    have : decide ((dP x.1 u).foldl (orK e) 0 = (dP y.1 v).foldl (orK e) 0) = decide (u = v) := by
     rw [Bool.eq_iff_iff, decide_eq_true_eq, decide_eq_true_eq, heq]
     exact ⟨fun h => h.2, fun h => ⟨hxy, h⟩⟩
    rw [this, mZ]
    simp; exact ⟨true, rfl, rfl⟩
  ·have hne : ¬ (dP x.1 u).foldl (orK e) 0 = (dP y.1 v).foldl (orK e) 0 := fun hh => hl (by rw [(heq.1 hh).1])
   rw [decide_eq_false (show ¬ ((x.1.Links.length : Int) = y.1.Links.length) by omega), decide_eq_false hne, mZ]
   exact ⟨true, rfl, rfl⟩
end Go.Proofs.Ytmfehenfoepkfaa
