/- Lemmas of this claim, joined by program. What a program compiled deep computes: the induction over the order. Every length up to 4096 has a plan: bounds on what compiling builds, reckoned by the kernel. Every length up to 4096 has a plan: bounds for the planner's choice, by a table that the kernel reckons. Every length up to 4096 has a plan: the table. Conditions: each lemma names its own. -/
import Derived.Test.YtpfglkohcfjelaaGreatDoorJ11
import Derived.Test.YtpfglkohcfjelaaGreatDoorJ08
import Derived.KernelRfl
set_option linter.all false
namespace Go.Tm
theorem Fq.add {f : Int} {b : Bld} (h : Fq f b) (s : Stp) : Fq f (b.add s) := h.kp ((Kp.refl h.ok).add s)
theorem Fq.rek {f : Int} {b : Bld} {R : Inst → Bld → Bld} (h : Fq f b) (hK : Keeps R) (x : Inst) : Fq f (R x b) := h.kp (hK x b h.ok)
theorem Fq.le {f : Int} {b : Bld} (h : Fq f b) : f ≤ b.cl := by have := h.ok.f1; rw [h.fr] at this; exact this
theorem Fq.region {f : Int} {b : Bld} (h : Fq f b) {n : Int} (h0 : 0 ≤ n) (h1 : f + n ≤ 400000) : Fq (f + n) (b.region n) := ⟨h.ok.region h0 (by rw [h.fr]; exact h1), by rw [region_fr, h.fr]⟩
def IJ (A B : Nat) (TB : (Nat → Cx) → Nat → Cx) (s J t F j : Nat) (c m : Nat → Cx) : Prop :=
 (∀ i, i < j → ∀ k, k < B → m (t + i * B + k) = twistF (TB (fun l => c (s + (i + A * l) * J)) k) (A * B) (i * k % (A * B))) ∧ ∀ q, q < F → (q < t ∨ t + j * B ≤ q) → m q = c q
theorem timesJ_runs {RB : Inst → Bld → Bld} {TB : (Nat → Cx) → Nat → Cx} {A B s J d t f0 F : Nat} (hR : DeepTr RB B TB) (hK : Keeps RB) (hL : Loc B TB) (hx : InsOk ⟨s, J, d⟩ ((A : Int) * B) f0) (hA : 2 ≤ A) (hB : 2 ≤ B) (hf0 : f0 ≤ 262144) (hff : f0 ≤ F) (htF : t + A * B ≤ F) (hdis : s + (A * B - 1) * J < t ∨ t + A * B ≤ s) (j : Nat) (hj : j < A) (b : Bld) (hb : Fq F b) :
  Runs b (timesJ RB ⟨s, J, d⟩ A B t b j) (fun m m' => ∀ c, IJ A B TB s J t F j c m → IJ A B TB s J t F (j + 1) c m') := by
 have hAB : 1 ≤ A * B := Nat.mul_le_mul (show 1 ≤ A by omega) (show 1 ≤ B by omega)
 have ec : ((A : Int) * B - 1) * J = (((A * B - 1) * J : Nat) : Int) := by
  rw [Int.natCast_mul, Int.natCast_sub hAB, Int.natCast_mul]; rfl
 have hp := hx.part (f' := F) (t := t) (j := j) (by omega) (by omega) ⟨by omega, by omega⟩ (by omega) (by omega) (by omega) (by rw [← Int.natCast_mul]; omega) (by simp only; rw [ec, ← Int.natCast_mul]; omega)
 have e : (⟨(s : Int) + j * J, (J : Int) * A, (t : Int) + j * B⟩ : Inst) = ⟨((s + j * J : Nat) : Int), ((J * A : Nat) : Int), ((t + j * B : Nat) : Int)⟩ := by
  rw [Int.natCast_add, Int.natCast_add, Int.natCast_mul, Int.natCast_mul, Int.natCast_mul]
 have hp' : InsOk ⟨((s + j * J : Nat) : Int), ((J * A : Nat) : Int), ((t + j * B : Nat) : Int)⟩ (B : Int) F := by rw [← e]; exact hp
 have r1 := hR (s + j * J) (J * A) (t + j * B) b hb.ok (by rw [hb.fr]; exact hp')
 rw [hb.fr] at r1
 simp only [Int.toNat_natCast] at r1
 have q2 := hb.rek hK ⟨((s + j * J : Nat) : Int), ((J * A : Nat) : Int), ((t + j * B : Nat) : Int)⟩
 have hcl := q2.le
 have hjB : (j + 1) * B ≤ A * B := Nat.mul_le_mul_right B hj
 rw [Nat.succ_mul] at hjB
 have hsl := hx.sL
 simp only at hsl
 rw [ec] at hsl
 -- what the part reads
 have key : ∀ c m y : Nat → Cx, IJ A B TB s J t F j c m → Tr1 B TB (s + j * J) (J * A) (t + j * B) F m y → (∀ k, k < B → y (t + j * B + k) = TB (fun l => c (s + (j + A * l) * J)) k) ∧ (∀ i, i < j → ∀ k, k < B → y (t + i * B + k) = twistF (TB (fun l => c (s + (i + A * l) * J)) k) (A * B) (i * k % (A * B))) ∧ ∀ q, q < F → (q < t ∨ t + (j + 1) * B ≤ q) → y q = c q := by
  rintro c m y ⟨i1, i2⟩ ⟨y1, y2⟩
  refine ⟨fun k hk => ?_, fun i hi k hk => ?_, fun q hq hd => ?_⟩
  ·
   rw [y1 k hk]
   refine hL _ _ (fun l hl => ?_) k
   have e1 : l * (J * A) = A * l * J := by rw [Nat.mul_comm J A, ← Nat.mul_assoc, Nat.mul_comm l A]
   have e2 : s + j * J + l * (J * A) = s + (j + A * l) * J := by rw [Nat.add_mul, e1, Nat.add_assoc]
   have e3 : A * (l + 1) ≤ A * B := Nat.mul_le_mul_left A hl
   rw [Nat.mul_succ] at e3
   have e4 : (j + A * l) * J ≤ (A * B - 1) * J := Nat.mul_le_mul_right J (by omega)
   show m (s + j * J + l * (J * A)) = _
   rw [e2]
   exact i2 _ (by omega) (by omega)
  ·
   have h3 : (i + 1) * B ≤ j * B := Nat.mul_le_mul_right B hi
   rw [Nat.succ_mul] at h3
   rw [y2 _ (by omega) (by omega)]
   exact i1 i hi k hk
  ·
   rw [Nat.succ_mul] at hd
   rw [y2 q hq (by omega)]
   exact i2 q hq (by omega)
 unfold timesJ
 simp only
 rw [e]
 by_cases h0 : j = 0
 ·
  subst h0
  rw [if_neg (by omega)]
  refine r1.mono ?_
  intro m y hy c hI
  obtain ⟨k1, k2, k3⟩ := key c m y hI hy
  refine ⟨fun i hi k hk => ?_, k3⟩
  obtain rfl : i = 0 := by omega
  rw [k1 k hk, Nat.zero_mul, Nat.zero_mod, twistF, if_pos rfl]
 ·
  rw [if_pos (by omega)]
  have et : twistS ((t : Int) + j * B) B ((A : Int) * B) j = twistS ((t + j * B : Nat) : Int) (B : Nat) ((A * B : Nat) : Int) (j : Nat) := by
   rw [Int.natCast_add, Int.natCast_mul, Int.natCast_mul]
  rw [et]
  refine (r1.trans (Runs.add (eff_twist (by omega)))).mono ?_
  rintro m m' ⟨y, hy, w1, w2⟩ c hI
  obtain ⟨k1, k2, k3⟩ := key c m y hI hy
  refine ⟨fun i hi k hk => ?_, fun q hq hd => ?_⟩
  ·
   by_cases p : i = j
   ·
    subst p
    rw [w1 k hk]
    simp only
    rw [k1 k hk]
   ·
    have h3 : (i + 1) * B ≤ j * B := Nat.mul_le_mul_right B (by omega)
    rw [Nat.succ_mul] at h3
    rw [w2 _ (by omega)]
    exact k2 i (by omega) k hk
  ·
   have hd2 := hd
   rw [Nat.succ_mul] at hd2
   rw [w2 q (by omega)]
   exact k3 q hq hd
def IK (A B : Nat) (TA : (Nat → Cx) → Nat → Cx) (t z d k : Nat) (c m : Nat → Cx) : Prop :=
 (∀ i, i < k → ∀ q, q < A → m (d + i + q * B) = TA (fun j => c (t + i + j * B)) q) ∧ ∀ p, p < z → (∀ i, i < k → ∀ q, q < A → p ≠ d + i + q * B) → m p = c p
theorem timesK_runs {RA : Inst → Bld → Bld} {TA : (Nat → Cx) → Nat → Cx} {A B t z d F : Nat} {x : Inst} (hxd : x.dst = (d : Nat)) (hR : DeepTr RA A TA) (hK : Keeps RA) (hL : Loc A TA) (hA : 2 ≤ A) (hB : 2 ≤ B) (hB2 : B ≤ 16384) (htz : t + A * B ≤ z) (hzF : z + A ≤ F) (hdt : d + A * B ≤ t) (k : Nat) (hk : k < B) (b : Bld) (hb : Fq F b) :
  Runs b (timesK RA x A B t z b k) (fun m m' => ∀ c, IK A B TA t z d k c m → IK A B TA t z d (k + 1) c m') := by
 have e0 : (A - 1) * B + B = A * B := by rw [← Nat.succ_mul]; congr 1; omega
 have ec : ((A : Int) - 1) * B = (((A - 1) * B : Nat) : Int) := by
  rw [Int.natCast_mul, Int.natCast_sub (by omega)]; rfl
 have e : (⟨(t : Int) + k, (B : Int), (z : Int)⟩ : Inst) = ⟨((t + k : Nat) : Int), (B : Nat), (z : Nat)⟩ := by rw [Int.natCast_add]
 have hp : InsOk ⟨((t + k : Nat) : Int), (B : Nat), (z : Nat)⟩ (A : Int) F := ⟨by simp only; omega, by simp only; omega, by simp only; omega, by simp only; rw [ec]; omega, by simp only; omega, by simp only; omega, .inl (by simp only; rw [ec]; omega)⟩
 have r1 := hR (t + k) B z b hb.ok (by rw [hb.fr]; exact hp)
 rw [hb.fr] at r1
 simp only [Int.toNat_natCast] at r1
 have q2 := hb.rek hK ⟨((t + k : Nat) : Int), (B : Nat), (z : Nat)⟩
 have hcl := q2.le
 have es : scatterS (x.dst + k) z B A = scatterS ((d + k : Nat) : Int) (z : Nat) (B : Nat) (A : Nat) := by rw [hxd, Int.natCast_add]
 have hin : ∀ i q : Nat, i < B → q < A → i + q * B < A * B := fun i q hi hq => by
  have : (q + 1) * B ≤ A * B := Nat.mul_le_mul_right B hq
  rw [Nat.succ_mul] at this; omega
 unfold timesK
 rw [e, es]
 refine (r1.trans (Runs.add (eff_scatter (by omega) (.inr (by omega)) fun i hi => by have := hin k i hk hi; omega))).mono ?_
 rintro m m' ⟨y, ⟨y1, y2⟩, w1, w2⟩ c ⟨i1, i2⟩
 have hy : ∀ p, p < z → y p = m p := fun p hp => y2 p (by omega) (.inl hp)
 refine ⟨fun i hi q hq => ?_, fun p hp hd => ?_⟩
 ·
  by_cases h : i = k
  ·
   subst h
   rw [w1 q hq, y1 q hq]
   refine hL _ _ (fun j hj => i2 _ ?_ fun i' hi' q' hq' => ?_) q
   · have := hin i j hk hj; omega
   · have h1 := hin i' q' (by omega) hq'; omega
  ·
   rw [w2 _ fun q' hq' e => grid_ne (i := i) (i' := k) (q := q) (q' := q') (J := B) (by omega) hk (by omega)]
   rw [hy _ (by have := hin i q (by omega) hq; omega)]
   exact i1 i (by omega) q hq
 ·
  rw [w2 p fun q' hq' => hd k (by omega) q' hq', hy p hp]
  exact i2 p hp fun i hi => hd i (by omega)
theorem deep_tr {o : Ord} (h : GO o) : DeepTr (deepM o) (sl o) (trM o) := by
 have D : ∀ {o : Ord} (x : Inst) {b : Bld} {Φ : (Nat → Cx) → (Nat → Cx) → Prop}, (b.full = false → Runs b (deepM o x b) Φ) → Runs b (deepM o x b) Φ := by
  intro o x b Φ h hf
  by_cases hb : b.full = true
  · rw [deepM_full hb, hb] at hf; cases hf
  · exact h (by simpa using hb) hf
 have hnat : ∀ {n : Int}, 0 ≤ n → ∃ m : Nat, n = m := fun {n} h => ⟨n.toNat, by omega⟩
 induction h with
 | @direct n h1 h2 =>
  intro s J d b hb hx
  obtain ⟨n, rfl⟩ := hnat (n := n) (by omega)
  obtain ⟨s0, j1, j2, sL, d0, dL, dis⟩ : InsOk ⟨s, J, d⟩ (n : Int) b.fr := hx
  have ec : ((n : Int) - 1) * J = (((n - 1) * J : Nat) : Int) := by rw [Int.natCast_mul, Int.natCast_sub (by omega)]; rfl
  simp only at sL dL dis
  rw [ec] at sL dis
  have hf1 := hb.f1
  refine D _ fun hf => ?_
  rw [deepM_direct hf rfl]
  refine Runs.back ((Runs.add (eff_direct (by omega) (by omega) (by show _ ≤ b.cl; omega))).mono ?_)
  rintro c c' ⟨w1, w2⟩
  show Tr1 (n : Int).toNat _ s J d b.fr.toNat c c'
  rw [trM_direct]
  simp only [Int.toNat_natCast]
  exact ⟨fun k hk => w1 k hk, fun q _ hq => w2 q hq⟩
 | @fly n h1 h2 =>
  intro s J d b hb hx
  obtain ⟨n, rfl⟩ := hnat (n := n) (by omega)
  obtain ⟨s0, j1, j2, sL, d0, dL, dis⟩ : InsOk ⟨s, J, d⟩ (n : Int) b.fr := hx
  have ec : ((n : Int) - 1) * J = (((n - 1) * J : Nat) : Int) := by rw [Int.natCast_mul, Int.natCast_sub (by omega)]; rfl
  simp only at sL dL dis
  rw [ec] at sL dis
  have hf1 := hb.f1
  refine D _ fun hf => ?_
  rw [deepM_fly hf rfl]
  have r1 : Runs b (b.add (gatherS (d : Nat) (s : Nat) (J : Nat) (n : Nat))) _ := Runs.add (eff_gather (by omega) (by show _ ≤ b.cl; omega))
  have r2 : Runs (b.add (gatherS (d : Nat) (s : Nat) (J : Nat) (n : Nat))) ((b.add (gatherS (d : Nat) (s : Nat) (J : Nat) (n : Nat))).add (flyS (d : Nat) ((1 : Nat) : Int) ((1 : Nat) : Int) (n : Nat))) _ := Runs.add (eff_fly (by omega) (by omega) fun i hi q hq => by rw [add_cl]; omega)
  refine Runs.back ((r1.trans r2).mono ?_)
  rintro c c' ⟨y, ⟨w1, w2⟩, v1, v2⟩
  show Tr1 (n : Int).toNat _ s J d b.fr.toNat c c'
  rw [trM_fly]
  simp only [Int.toNat_natCast]
  refine ⟨fun k hk => ?_, fun q _ hq => ?_⟩
  ·
   have := v1 0 (by omega) k hk
   rw [show d + 0 + k * 1 = d + k by omega] at this
   rw [this, mapr_congr (y := fun j => c (s + j * J)) fun q hq => by rw [show d + 0 + q * 1 = d + q by omega]; exact w1 q hq]
  · rw [v2 q fun i hi q' hq' => by omega, w2 q hq]
 | @times a b ga gb h2 h3 h4 ia ib =>
  intro s J d c hc hx
  have hx0 : InsOk ⟨s, J, d⟩ (a.len * b.len) c.fr := hx
  have ka := deepM_keeps ga
  have kb := deepM_keeps gb
  have la := trM_loc ga
  have lb := trM_loc gb
  rw [← len_sl (show a.len ≠ 0 by omega)] at ia la
  rw [← len_sl (show b.len ≠ 0 by omega)] at ib lb
  have hsz : (sl (.mk 3 0 [a, b])).toNat = a.len.toNat * b.len.toNat := by
   show (a.len * b.len).toNat = _
   rw [Int.toNat_mul (by omega) (by omega)]
  have hlb := len_bd b
  refine D _ fun hf => ?_
  rw [deepM_times hf rfl rfl, hsz]
  have hcl := (full_false hf).2.1
  have hfr := hc.f1
  have hf0 := hc.f0
  obtain ⟨f, hfe⟩ := hnat hf0
  obtain ⟨A, hA⟩ := hnat (show 0 ≤ a.len by omega)
  obtain ⟨B, hB⟩ := hnat (show 0 ≤ b.len by omega)
  rw [hA, hB, hfe] at hx0
  rw [hA] at ia la
  rw [hB] at ib lb
  rw [trM_times, hA, hB, hfe]
  simp only [Int.toNat_natCast] at la lb ⊢
  have hx1 := hx0
  obtain ⟨s0, j1, j2, sL, d0, dL, dis⟩ := hx1
  have hA2 : 2 ≤ A := by omega
  have hB2 : 2 ≤ B := by omega
  have hAB : 1 ≤ A * B := Nat.mul_le_mul (show 1 ≤ A by omega) (show 1 ≤ B by omega)
  have hAB4 : A * B ≤ 16384 := by
   rw [hA, hB] at h4
   have : ((A * B : Nat) : Int) ≤ 16384 := by rw [Int.natCast_mul]; exact h4
   omega
  have e0 : (A - 1) * B + B = A * B := by rw [← Nat.succ_mul]; congr 1; omega
  have hAl : A * 2 ≤ A * B := Nat.mul_le_mul_left A hB2
  have ec : ((A : Int) * B - 1) * J = (((A * B - 1) * J : Nat) : Int) := by
   rw [Int.natCast_mul, Int.natCast_sub hAB, Int.natCast_mul]; rfl
  simp only at sL dL dis
  rw [ec] at sL dis
  rw [← Int.natCast_mul] at dL dis
  have hin : ∀ i q : Nat, i < B → q < A → i + q * B < A * B := fun i q hi hq => by
   have : (q + 1) * B ≤ A * B := Nat.mul_le_mul_right B hq
   rw [Nat.succ_mul] at this; omega
  have hkq : ∀ k, k < A * B → k % B < B ∧ k / B < A ∧ k % B + k / B * B = k := fun k hk => by
   refine ⟨Nat.mod_lt _ (by omega), Nat.div_lt_of_lt_mul (by rw [Nat.mul_comm]; exact hk), ?_⟩
   have := Nat.mod_add_div k B
   rw [Nat.mul_comm B] at this
   exact this
  refine Runs.back ?_
  unfold timesM
  by_cases hk : a.kind = 2
  ·
   rw [if_pos (by simpa using hk)]
   have har : trM a = fun x i => (flyG ((List.range A).map x)).getD i z0 := by
    have hl := len_sl (show a.len ≠ 0 by omega)
    cases ga with
    | @fly n p1 p2 =>
     have e1 : sl (.mk 2 n []) = n := rfl
     rw [trM_fly, show n.toNat = A by omega]
    | direct _ _ => exact absurd (show (1 : Int) = 2 from hk) (by decide)
    | times _ _ _ _ _ => exact absurd (show (3 : Int) = 2 from hk) (by decide)
    | blue _ _ _ _ => exact absurd (show (4 : Int) = 2 from hk) (by decide)
   obtain ⟨q1, r1⟩ := Runs.fold (Q := Fq f) (F := timesJ (deepM b) ⟨s, J, d⟩ A B d) (I := IJ A B (trM b) s J d f) (fun c => ⟨fun i hi => absurd hi (Nat.not_lt_zero i), fun _ _ _ => rfl⟩) (fun e j he => he.kp (timesJ_keeps kb _ _ _ _ e j he.ok)) A (fun j hj e he => timesJ_runs ib kb lb hx0 hA2 hB2 (by omega) (Nat.le_refl _) (by omega) (by omega) j hj e he) c ⟨hc, hfe⟩
   have hq := q1.le
   simp only [Int.toNat_natCast]
   refine (r1.trans (Runs.add (eff_fly (J := B) (m := B) (r := A) (by omega) (Nat.le_refl _) fun i hi q hq => by have := hin i q hi hq; omega))).mono ?_
   rintro m m' ⟨y, ⟨i1, i2⟩, v1, v2⟩
   refine ⟨fun k hk => ?_, fun q hq hd => ?_⟩
   ·
    obtain ⟨e1, e2, e3⟩ := hkq k hk
    have := v1 (k % B) e1 (k / B) e2
    rw [show d + k % B + k / B * B = d + k by omega] at this
    rw [this]
    unfold trT
    rw [har, mapr_congr fun q hq => ?_]
    rw [show d + k % B + q * B = d + q * B + k % B by omega]
    exact i1 q hq (k % B) e1
   ·
    rw [v2 q fun i hi q' hq' => by have := hin i q' hi hq'; omega]
    exact i2 q hq hd
  ·
   rw [if_neg (by simpa using hk)]
   simp only
   have hr : Fq ((f + A * B + A : Nat) : Int) ((c.region ((A : Int) * B)).region A) := by
    have h9 : ((A : Int) * B) = ((A * B : Nat) : Int) := (Int.natCast_mul ..).symm
    have := ((⟨hc, hfe⟩ : Fq f c).region (n := (A : Int) * B) (by rw [h9]; omega) (by rw [h9]; omega)).region (n := (A : Int)) (by omega) (by rw [h9]; omega)
    rw [h9, ← Int.natCast_add, ← Int.natCast_add] at this
    rw [h9]; exact this
   have ez : (f : Int) + (A : Int) * B = ((f + A * B : Nat) : Int) := by rw [Int.natCast_add, Int.natCast_mul]
   rw [hfe, ez]
   obtain ⟨q1, r1⟩ := Runs.fold (Q := Fq ((f + A * B + A : Nat) : Int)) (F := timesJ (deepM b) ⟨s, J, d⟩ A B f) (I := IJ A B (trM b) s J f (f + A * B + A)) (fun c => ⟨fun i hi => absurd hi (Nat.not_lt_zero i), fun _ _ _ => rfl⟩) (fun e j he => he.kp (timesJ_keeps kb _ _ _ _ e j he.ok)) A (fun j hj e he => timesJ_runs ib kb lb hx0 hA2 hB2 (by omega) (by omega) (by omega) (by omega) j hj e he) _ hr
   obtain ⟨q2, r2⟩ := Runs.fold (Q := Fq ((f + A * B + A : Nat) : Int)) (F := timesK (deepM a) ⟨s, J, d⟩ A B f ((f + A * B : Nat) : Int)) (I := IK A B (trM a) f (f + A * B) d) (fun c => ⟨fun i hi => absurd hi (Nat.not_lt_zero i), fun _ _ _ => rfl⟩) (fun e j he => he.kp (timesK_keeps ka _ _ _ _ _ e j he.ok)) B (fun j hj e he => timesK_runs rfl ia ka la hA2 hB2 (by omega) (Nat.le_refl _) (Nat.le_refl _) (by omega) j hj e he) _ q1
   simp only [Int.toNat_natCast]
   refine ((((Runs.region c ((A : Int) * B)).trans (Runs.region _ (A : Int))).trans r1).trans r2).mono ?_
   rintro m m' ⟨y2, ⟨y1, ⟨y0, rfl, rfl⟩, j1, j2⟩, k1, k2⟩
   refine ⟨fun k hk => ?_, fun q hq hd => ?_⟩
   ·
    obtain ⟨e1, e2, e3⟩ := hkq k hk
    have := k1 (k % B) e1 (k / B) e2
    rw [show d + k % B + k / B * B = d + k by omega] at this
    rw [this]
    unfold trT
    refine la _ _ (fun j hj => ?_) _
    rw [show f + k % B + j * B = f + j * B + k % B by omega]
    exact j1 j hj (k % B) e1
   ·
    rw [k2 q (by omega) fun i hi q' hq' => by have := hin i q' hi hq'; omega]
    exact j2 q (by omega) (.inl hq)
 | @blue n a h1 h2 ga h3 ia =>
  intro s J d c hc hx
  have hx0 : InsOk ⟨s, J, d⟩ n c.fr := hx
  have ka := deepM_keeps ga
  have la := trM_loc ga
  have hm := len_bd a
  rw [← len_sl (show a.len ≠ 0 by omega)] at ia la
  refine D _ fun hf => ?_
  rw [deepM_blue hf rfl rfl]
  have hcl := (full_false hf).2.1
  have hfr := hc.f1
  have hf0 := hc.f0
  obtain ⟨f, hfe⟩ := hnat hf0
  obtain ⟨M, hM⟩ := hnat (show 0 ≤ a.len by omega)
  obtain ⟨n, rfl⟩ := hnat (n := n) (by omega)
  obtain ⟨s0, j1, j2, sL, d0, dL, dis⟩ := hx0
  have ec : ((n : Int) - 1) * J = (((n - 1) * J : Nat) : Int) := by rw [Int.natCast_mul, Int.natCast_sub (by omega)]; rfl
  simp only at sL dL dis
  rw [ec] at sL dis
  refine Runs.back ?_
  show Runs c (blueM (deepM a) (n : Int) a.len ⟨s, J, d⟩ c) (Tr1 (n : Int).toNat (trM (.mk 4 n [a])) s J d c.fr.toNat)
  rw [trM_blue, hM, hfe]
  rw [hM] at ia la
  simp only [Int.toNat_natCast] at la ⊢
  unfold blueM
  simp only [Blu.of, Blu.first, Blu.fill, Blu.second, Blu.last, Bld.adds, List.foldl_cons, List.foldl_nil]
  rw [hfe, show (f : Int) + M = ((f + M : Nat) : Int) from (Int.natCast_add ..).symm, show ((f + M : Nat) : Int) + M = ((f + M + M : Nat) : Int) from (Int.natCast_add ..).symm, show ((f + M + M : Nat) : Int) + M = ((f + M + M + M : Nat) : Int) from (Int.natCast_add ..).symm, show (f : Int) + n = ((f + n : Nat) : Int) from (Int.natCast_add ..).symm, show (M : Int) - n = ((M - n : Nat) : Int) from (Int.natCast_sub (by omega)).symm]
  have hr := ((((⟨hc, hfe⟩ : Fq f c).region (n := (M : Int)) (by omega) (by omega)).region (n := (M : Int)) (by omega) (by omega)).region (n := (M : Int)) (by omega) (by omega)).region (n := (M : Int)) (by omega) (by omega)
  rw [← Int.natCast_add, ← Int.natCast_add, ← Int.natCast_add, ← Int.natCast_add] at hr
  have r0 := (((Runs.region c (M : Int)).trans (Runs.region _ (M : Int))).trans (Runs.region _ (M : Int))).trans (Runs.region _ (M : Int))
  generalize (((c.region (M : Int)).region (M : Int)).region (M : Int)).region (M : Int) = c0 at hr r0 ⊢
  have ii : ∀ u p : Nat, u + M ≤ f + M + M + M + M → p + M ≤ f + M + M + M + M → (u + M ≤ p ∨ p + M ≤ u) → InsOk ⟨(u : Nat), ((1 : Nat) : Int), (p : Nat)⟩ (M : Int) ((f + M + M + M + M : Nat) : Int) := fun u p a3 a4 a5 => ⟨by simp only; omega, by simp only; omega, by simp only; omega, by simp only; omega, by simp only; omega, by simp only; omega, by simp only; omega⟩
  have tr : ∀ (u p : Nat) (e : Bld), Fq ((f + M + M + M + M : Nat) : Int) e → u + M ≤ f + M + M + M + M → p + M ≤ f + M + M + M + M → (u + M ≤ p ∨ p + M ≤ u) → Runs e (deepM a ⟨(u : Nat), 1, (p : Nat)⟩ e) (Tr1 M (trM a) u 1 p (f + M + M + M + M)) := fun u p e he a3 a4 a5 => by
   have := ia u 1 p e he.ok (by rw [he.fr]; exact ii u p a3 a4 a5)
   rw [he.fr] at this
   have h9 : Runs e (deepM a ⟨(u : Nat), ((1 : Nat) : Int), (p : Nat)⟩ e) (Tr1 M (trM a) u 1 p (f + M + M + M + M)) := by simpa only [Int.toNat_natCast] using this
   exact h9
  have hl0 := hr.le
  have q1 := hr.add (gatherS (f : Nat) (s : Nat) (J : Nat) (n : Nat))
  have a1 := Runs.add (eff_gather (N := c0.cl) (d := f) (s := s) (J := J) (n := n) (by omega) (by omega))
  have hl1 := q1.le
  have q2 := q1.add (zeroS ((f + n : Nat) : Int) ((M - n : Nat) : Int))
  have a2 := Runs.add (b := c0.add (gatherS (f : Nat) (s : Nat) (J : Nat) (n : Nat))) (eff_zero (d := f + n) (n := M - n) (by omega))
  have hl2 := q2.le
  have q3 := q2.add (chirpS (f : Nat) (n : Nat) (n : Nat))
  have a3 := Runs.add (b := (c0.add (gatherS (f : Nat) (s : Nat) (J : Nat) (n : Nat))).add (zeroS ((f + n : Nat) : Int) ((M - n : Nat) : Int))) (eff_chirp (d := f) (m := n) (n := n) (by omega))
  have r3 := ((r0.trans a1).trans a2).trans a3
  clear a1 a2 a3 q1 q2 hl1 hl2 r0
  generalize ((c0.add (gatherS (f : Nat) (s : Nat) (J : Nat) (n : Nat))).add (zeroS ((f + n : Nat) : Int) ((M - n : Nat) : Int))).add (chirpS (f : Nat) (n : Nat) (n : Nat)) = c3 at r3 q3 ⊢
  have r4 := r3.trans (tr f (f + M + M) c3 q3 (by omega) (by omega) (by omega))
  have q4 := q3.rek ka ⟨(f : Nat), 1, ((f + M + M : Nat) : Int)⟩
  clear r3 q3
  generalize deepM a ⟨(f : Nat), 1, ((f + M + M : Nat) : Int)⟩ c3 = c4 at r4 q4 ⊢
  have hl4 := q4.le
  have r5 := r4.trans (Runs.add (eff_fill (N := c4.cl) (d := f + M) (m := M) (n := n) (by omega)))
  have q5 := q4.add (fillS ((f + M : Nat) : Int) (M : Nat) (n : Nat))
  clear r4 q4 hl4
  generalize c4.add (fillS ((f + M : Nat) : Int) (M : Nat) (n : Nat)) = c5 at r5 q5 ⊢
  have r6 := r5.trans (tr (f + M) (f + M + M + M) c5 q5 (by omega) (by omega) (by omega))
  have q6 := q5.rek ka ⟨((f + M : Nat) : Int), 1, ((f + M + M + M : Nat) : Int)⟩
  clear r5 q5
  generalize deepM a ⟨((f + M : Nat) : Int), 1, ((f + M + M + M : Nat) : Int)⟩ c5 = c6 at r6 q6 ⊢
  have hl6 := q6.le
  have r7 := r6.trans (Runs.add (eff_times (N := c6.cl) (d := f + M + M) (s := f + M + M + M) (n := M) (by omega) (by omega)))
  have q7 := q6.add (tmsS ((f + M + M : Nat) : Int) ((f + M + M + M : Nat) : Int) (M : Nat))
  clear r6 q6 hl6
  generalize c6.add (tmsS ((f + M + M : Nat) : Int) ((f + M + M + M : Nat) : Int) (M : Nat)) = c7 at r7 q7 ⊢
  have hl7 := q7.le
  have r8 := r7.trans (Runs.add (eff_conj (N := c7.cl) (d := f + M + M) (n := M) (by omega)))
  have q8 := q7.add (conjS ((f + M + M : Nat) : Int) (M : Nat))
  clear r7 q7 hl7
  generalize c7.add (conjS ((f + M + M : Nat) : Int) (M : Nat)) = c8 at r8 q8 ⊢
  have r9 := r8.trans (tr (f + M + M) f c8 q8 (by omega) (by omega) (by omega))
  have q9 := q8.rek ka ⟨((f + M + M : Nat) : Int), 1, (f : Nat)⟩
  clear r8 q8
  generalize deepM a ⟨((f + M + M : Nat) : Int), 1, (f : Nat)⟩ c8 = c9 at r9 q9 ⊢
  have hl9 := q9.le
  have q10 := q9.add (conjS (f : Nat) (n : Nat))
  have r10 := r9.trans (Runs.add (eff_conj (N := c9.cl) (d := f) (n := n) (by omega)))
  clear r9 q9 hl9
  generalize c9.add (conjS (f : Nat) (n : Nat)) = c10 at r10 q10 ⊢
  have hl10 := q10.le
  have q11 := q10.add (overS (f : Nat) (n : Nat) (M : Nat))
  have r11 := r10.trans (Runs.add (eff_over (N := c10.cl) (d := f) (n := n) (m := M) (by omega)))
  clear r10 q10 hl10
  generalize c10.add (overS (f : Nat) (n : Nat) (M : Nat)) = c11 at r11 q11 ⊢
  have hl11 := q11.le
  have q12 := q11.add (gatherS (d : Nat) (f : Nat) ((1 : Nat) : Int) (n : Nat))
  have r12 := r11.trans (Runs.add (eff_gather (N := c11.cl) (d := d) (s := f) (J := 1) (n := n) (by omega) (by omega)))
  clear r11 q11 hl11
  have hl12 := q12.le
  have r13 := r12.trans (Runs.add (b := c11.add (gatherS (d : Nat) (f : Nat) ((1 : Nat) : Int) (n : Nat))) (eff_chirp (d := d) (m := n) (n := n) (by omega)))
  refine Runs.mono r13 ?_
  clear r13 r12 q12 hl12 tr ii
  rintro m m' ⟨g12, ⟨g11, ⟨g10, ⟨g9, ⟨g8, ⟨g7, ⟨g6, ⟨g5, ⟨g4, ⟨g3, ⟨g2, ⟨g1, ⟨g0, ⟨x3, ⟨x2, ⟨x1, rfl, rfl⟩, rfl⟩, rfl⟩, w1⟩, w2⟩, w3⟩, w4⟩, w5⟩, w6⟩, w7⟩, w8⟩, w9⟩, w10⟩, w11⟩, w12⟩, w13⟩
  simp only [Wr] at w1 w2 w3 w5 w7 w8 w10 w11 w12 w13
  have hU : ∀ j, j < M → g3 (f + j * 1) = if j < n then mulC (g0 (s + j * J)) (chirpF n j) else z0 := fun j hj => by
   rw [Nat.mul_one]
   by_cases h : j < n
   · rw [if_pos h, w3.1 j h, w2.2 _ (by omega), w1.1 j h]
   · rw [if_neg h, w3.2 _ (by omega), show f + j = f + n + (j - n) by omega, w2.1 _ (by omega)]
  have hP : ∀ i, i < M → g6 (f + M + M + i) = trM a (fun j => if j < n then mulC (g0 (s + j * J)) (chirpF n j) else z0) i := fun i hi => by
   rw [w6.2 _ (by omega) (by omega), w5.2 _ (by omega), w4.1 i hi]
   exact la _ _ hU i
  have hQ : ∀ i, i < M → g6 (f + M + M + M + i) = trM a (otherF n M) i := fun i hi => by
   rw [w6.1 i hi]
   exact la _ _ (fun j hj => by rw [Nat.mul_one, w5.1 j hj]) i
  have hR : ∀ k, k < M → g9 (f + k) = trM a (fun i => conjC (mulC (trM a (fun j => if j < n then mulC (g0 (s + j * J)) (chirpF n j) else z0) i) (trM a (otherF n M) i))) k := fun k hk => by
   rw [w9.1 k hk]
   refine la _ _ (fun i hi => ?_) k
   rw [Nat.mul_one, w8.1 i hi]
   rw [w7.1 i hi]
   rw [hP i hi, hQ i hi]
  refine ⟨fun k hk => ?_, fun q hq hd => ?_⟩
  ·
   rw [w13.1 k hk]
   rw [w12.1 k hk]
   rw [Nat.mul_one, w11.1 k hk]
   rw [w10.1 k hk]
   rw [hR k (by omega)]
   rfl
  · rw [w13.2 q hd, w12.2 q hd, w11.2 q (by omega), w10.2 q (by omega), w9.2 q (by omega) (by omega), w8.2 q (by omega), w7.2 q (by omega), w6.2 q (by omega) (by omega), w5.2 q (by omega), w4.2 q (by omega) (by omega), w3.2 q (by omega), w2.2 q (by omega), w1.2 q (by omega)]
end Go.Tm
namespace Go.Tm
structure Grow (b r : Bld) (s a c : Int) : Prop where
  st : (r.steps.length : Int) ≤ b.steps.length + s
  ac : r.acts ≤ b.acts + a
  cl : r.cl ≤ b.cl ∨ r.cl ≤ b.fr + c
  fr : r.fr = b.fr
theorem Grow.refl (b : Bld) : Grow b b 0 0 0 := ⟨by omega, by omega, .inl (Int.le_refl _), rfl⟩
theorem Grow.mono {b r : Bld} {s a c s' a' c' : Int} (h : Grow b r s a c) (h1 : s ≤ s') (h2 : a ≤ a') (h3 : c ≤ c') : Grow b r s' a' c' := by
 obtain ⟨e1, e2, e3, e4⟩ := h
 exact ⟨by omega, by omega, by omega, e4⟩
theorem Grow.then {b r t : Bld} {s a c s' a' : Int} (h : Grow b r s a c) (g : Grow r t s' a' c) : Grow b t (s + s') (a + a') c := by
 obtain ⟨e1, e2, e3, e4⟩ := h
 obtain ⟨f1, f2, f3, f4⟩ := g
 rw [e4] at f3 f4
 exact ⟨by omega, by omega, by omega, f4⟩
theorem actsM_le {s : Stp} {k : Int} (h0 : 0 ≤ k) (h : s.count ≤ k) : actsM s ≤ k := by unfold actsM; split <;> omega
theorem Grow.add (b : Bld) (x : Stp) {k : Int} (h0 : 0 ≤ k) (h : x.count ≤ k) : Grow b (b.add x) 1 k 0 := by
 have := actsM_le h0 h
 by_cases hf : b.full = true
 · rw [add_full hf]; exact (Grow.refl b).mono (by omega) h0 (Int.le_refl _)
 ·
  rw [add_not (by simpa using hf)]
  exact ⟨by simp, by simp only; omega, .inl (Int.le_refl _), O⟩
theorem Grow.and {b r : Bld} {s a c : Int} (h : Grow b r s a c) (x : Stp) {k : Int} (hc : 0 ≤ c) (h0 : 0 ≤ k) (hk : x.count ≤ k) : Grow b (r.add x) (s + 1) (a + k) c := h.then ((Grow.add r x h0 hk).mono (Int.le_refl _) (Int.le_refl _) hc)
def DG (R : Inst → Bld → Bld) (s a c : Int) : Prop := ∀ x b, Grow b (R x b) s a c
theorem foldl_grow {F : Bld → Nat → Bld} {s a c : Int} (hc : 0 ≤ c) (hF : ∀ b j, Grow b (F b j) s a c) : ∀ (l : List Nat) (b : Bld), Grow b (l.foldl F b) (l.length * s) (l.length * a) c
 | [], b => (Grow.refl b).mono (by simp) (by simp) hc
 | j :: t, b => by
  have h1 := (hF b j).then (foldl_grow hc hF t (F b j))
  have e1 : ((j :: t).length : Int) * s = s + t.length * s := by rw [List.length_cons]; push_cast; rw [Int.add_mul, Int.one_mul, Int.add_comm]
  have e2 : ((j :: t).length : Int) * a = a + t.length * a := by rw [List.length_cons]; push_cast; rw [Int.add_mul, Int.one_mul, Int.add_comm]
  rw [e1, e2]
  exact h1
theorem Grow.fr0 {b r : Bld} {s a c : Int} (h : Grow b r s a c) : Grow b { r with fr := b.fr } s a c := ⟨h.st, h.ac, h.cl, rfl⟩
theorem deep_full_or {o : Ord} {s a c : Int} (hs : 0 ≤ s) (ha : 0 ≤ a) (hc : 0 ≤ c) (h : ∀ x b, b.full = false → Grow b (deepM o x b) s a c) : DG (deepM o) s a c := by
 intro x b
 by_cases hf : b.full = true
 · rw [deepM_full hf]; exact (Grow.refl b).mono hs ha hc
 · exact h x b (by simpa using hf)
theorem dg_direct {n : Int} (h : 0 ≤ n) : DG (deepM (.mk 1 n [])) 1 n 0 :=
 deep_full_or (by omega) h (by omega) fun x b hf => by
  rw [deepM_direct hf rfl]
  exact (Grow.add b (directS x n) h (Int.le_refl _)).fr0
theorem dg_fly {n : Int} (h : 0 ≤ n) : DG (deepM (.mk 2 n [])) 2 (n + 1) 0 :=
 deep_full_or (by omega) (by omega) (by omega) fun x b hf => by
  rw [deepM_fly hf rfl]
  exact ((Grow.add b (gatherS x.dst x.src x.jump n) h (Int.le_refl _)).and (flyS x.dst 1 1 n) (Int.le_refl _) (show (0 : Int) ≤ 1 by omega) (Int.le_refl _)).fr0
theorem timesJ_grow {R : Inst → Bld → Bld} {s a c : Int} (h : DG R s a c) (hc : 0 ≤ c) (x : Inst) (la lb t : Int) (hb : 0 ≤ lb) (b : Bld) (j : Nat) : Grow b (timesJ R x la lb t b j) (s + 1) (a + lb) c := by
 unfold timesJ
 simp only
 have h1 := h ⟨x.src + j * x.jump, x.jump * la, t + j * lb⟩ b
 split
 · exact h1.and _ hc hb (Int.le_refl _)
 · exact h1.mono (by omega) (by omega) (Int.le_refl _)
theorem timesK_grow {R : Inst → Bld → Bld} {s a c : Int} (h : DG R s a c) (hc : 0 ≤ c) (x : Inst) (la lb t z : Int) (ha : 0 ≤ la) (b : Bld) (k : Nat) : Grow b (timesK R x la lb t z b k) (s + 1) (a + la) c := by
 unfold timesK
 exact (h ⟨t + k, lb, z⟩ b).and _ hc ha (Int.le_refl _)
theorem region_facts (b : Bld) (n : Int) : (b.region n).steps = b.steps ∧ (b.region n).acts = b.acts ∧ (b.region n).fr = b.fr + n ∧ ((b.region n).cl ≤ b.cl ∨ (b.region n).cl ≤ b.fr + n) := by
 refine ⟨O, O, O, ?_⟩
 simp only [Bld.region]
 split <;> omega
theorem dg_timesF {a b : Ord} {s ac c : Int} (hk : a.kind = 2) (hb : DG (deepM b) s ac c) (hc : 0 ≤ c) (hs : 0 ≤ s) (hac : 0 ≤ ac) :
  DG (deepM (.mk 3 0 [a, b])) (a.len * (s + 1) + 1) (a.len * (ac + b.len) + b.len) c := by
 have la := (len_bd a).1
 have lb := (len_bd b).1
 have n1 := Int.mul_nonneg la (show 0 ≤ s + 1 by omega)
 have n2 := Int.mul_nonneg la (show 0 ≤ ac + b.len by omega)
 refine deep_full_or (by omega) (by omega) hc fun x w hf => ?_
 rw [deepM_times hf rfl rfl]
 unfold timesM
 rw [if_pos (by simp [hk])]
 have h1 := foldl_grow hc (fun d j => timesJ_grow hb hc x a.len b.len x.dst lb d j) (List.range a.len.toNat) w
 rw [List.length_range, show ((a.len.toNat : Nat) : Int) = a.len by omega] at h1
 exact (h1.and (flyS x.dst b.len b.len a.len) hc lb (Int.le_refl _)).fr0
theorem dg_timesD {a b : Ord} {s ac c s' ac' c' : Int} (hk : a.kind ≠ 2) (ha : DG (deepM a) s' ac' c') (hb : DG (deepM b) s ac c) (hc : 0 ≤ c) (hc' : c' ≤ c) (hs : 0 ≤ s) (hac : 0 ≤ ac) (hs' : 0 ≤ s') (hac' : 0 ≤ ac') :
  DG (deepM (.mk 3 0 [a, b])) (a.len * (s + 1) + b.len * (s' + 1)) (a.len * (ac + b.len) + b.len * (ac' + a.len)) (a.len * b.len + a.len + c) := by
 have la := (len_bd a).1
 have lb := (len_bd b).1
 have n1 := Int.mul_nonneg la (show 0 ≤ s + 1 by omega)
 have n2 := Int.mul_nonneg la (show 0 ≤ ac + b.len by omega)
 have n3 := Int.mul_nonneg lb (show 0 ≤ s' + 1 by omega)
 have n4 := Int.mul_nonneg lb (show 0 ≤ ac' + a.len by omega)
 have n5 := Int.mul_nonneg la lb
 refine deep_full_or (by omega) (by omega) (by omega) fun x w hf => ?_
 rw [deepM_times hf rfl rfl]
 unfold timesM
 rw [if_neg (by simp [hk])]
 simp only
 have ha2 : DG (deepM a) s' ac' c := fun x b => (ha x b).mono (Int.le_refl _) (Int.le_refl _) hc'
 have h1 := foldl_grow hc (fun d j => timesJ_grow hb hc x a.len b.len w.fr lb d j) (List.range a.len.toNat) ((w.region (a.len * b.len)).region a.len)
 have h2 := h1.then (foldl_grow hc (fun d k => timesK_grow ha2 hc x a.len b.len w.fr (w.fr + a.len * b.len) la d k) (List.range b.len.toNat) _)
 rw [List.length_range, List.length_range, show ((a.len.toNat : Nat) : Int) = a.len by omega, show ((b.len.toNat : Nat) : Int) = b.len by omega] at h2
 obtain ⟨f1, f2, f3, f4⟩ := region_facts w (a.len * b.len)
 obtain ⟨g1, g2, g3, g4⟩ := region_facts (w.region (a.len * b.len)) a.len
 obtain ⟨e1, e2, e3, e4⟩ := h2
 rw [g1, f1] at e1
 rw [g2, f2] at e2
 exact ⟨e1, e2, by simp only; omega, O⟩
theorem Grow.adds {b r : Bld} {s a c k : Int} (h : Grow b r s a c) (hc : 0 ≤ c) (h0 : 0 ≤ k) : ∀ (l : List Stp), (∀ x ∈ l, x.count ≤ k) → Grow b (r.adds l) (s + l.length) (a + l.length * k) c := by
 intro l
 induction l generalizing r s a with
 | nil => intro _; exact h.mono (by simp) (by simp) (Int.le_refl _)
 | cons x t ih =>
  intro hl
  have := ih (h.and x hc h0 (hl x (List.mem_cons_self ..))) (fun y hy => hl y (List.mem_cons_of_mem _ hy))
  have e1 : s + ((x :: t).length : Int) = s + 1 + t.length := by rw [List.length_cons]; push_cast; omega
  have e2 : a + ((x :: t).length : Int) * k = a + k + t.length * k := by rw [List.length_cons]; push_cast; rw [Int.add_mul, Int.one_mul]; omega
  rw [e1, e2]
  exact this
theorem dg_blue {a : Ord} {n s ac c : Int} (ha : DG (deepM a) s ac c) (hn : 0 ≤ n) (hm : n ≤ a.len) (hc : 0 ≤ c) (hs : 0 ≤ s) (hac : 0 ≤ ac) :
  DG (deepM (.mk 4 n [a])) (3 * s + 10) (3 * ac + 10 * a.len) (4 * a.len + c) := by
 have la := (len_bd a).1
 refine deep_full_or (by omega) (by omega) (by omega) fun x w hf => ?_
 rw [deepM_blue hf rfl rfl]
 show Grow w { blueM (deepM a) n a.len x w with fr := w.fr } _ _ _
 unfold blueM
 simp only
 generalize hW : Blu.of n a.len w.fr = W
 have wn : W.n = n := by rw [← hW]; rfl
 have wm : W.m = a.len := by rw [← hW]; rfl
 have k1 := (Grow.refl ((((w.region a.len).region a.len).region a.len).region a.len)).mono (s' := 0) (a' := 0) (c' := c) (Int.le_refl _) (Int.le_refl _) hc
 have k2 := (k1.adds hc la (W.first x) (by
  intro y hy
  simp only [Blu.first, List.mem_cons, List.not_mem_nil, or_false] at hy
  rcases hy with rfl | rfl | rfl <;> simp only [gatherS, zeroS, chirpS] <;> omega)).then (ha ⟨W.u, 1, W.p⟩ _)
 have k3 := (k2.and W.fill hc la (by simp only [Blu.fill, fillS]; omega)).then (ha ⟨W.v, 1, W.q⟩ _)
 have k4 := (k3.adds hc la W.second (by
  intro y hy
  simp only [Blu.second, List.mem_cons, List.not_mem_nil, or_false] at hy
  rcases hy with rfl | rfl <;> simp only [tmsS, conjS] <;> omega)).then (ha ⟨W.p, 1, W.u⟩ _)
 have k5 := k4.adds hc la (W.last x) (by
  intro y hy
  simp only [Blu.last, List.mem_cons, List.not_mem_nil, or_false] at hy
  rcases hy with rfl | rfl | rfl | rfl <;> simp only [gatherS, overS, conjS, chirpS] <;> omega)
 obtain ⟨f1, f2, f3, f4⟩ := region_facts w a.len
 obtain ⟨g1, g2, g3, g4⟩ := region_facts (w.region a.len) a.len
 obtain ⟨h1, h2, h3, h4⟩ := region_facts ((w.region a.len).region a.len) a.len
 obtain ⟨i1, i2, i3, i4⟩ := region_facts (((w.region a.len).region a.len).region a.len) a.len
 obtain ⟨e1, e2, e3, e4⟩ := k5
 rw [i1, h1, g1, f1] at e1
 rw [i2, h2, g2, f2] at e2
 have l1 : (W.first x).length = 3 := rfl
 have l2 : W.second.length = 2 := rfl
 have l3 : (W.last x).length = 4 := rfl
 rw [l1, l2, l3] at e1 e2
 exact ⟨by simp only; omega, by simp only; omega, by simp only; omega, O⟩
end Go.Tm
namespace Go.Tm
structure V where
  s : Nat
  a : Nat
  c : Nat
  k : Nat
  d : Nat
def V.leB (x y : V) : Bool := decide (x.s ≤ y.s) && decide (x.a ≤ y.a) && decide (x.c ≤ y.c) && decide (x.k ≤ y.k) && decide (x.d ≤ y.d)
structure V.Le (x y : V) : Prop where
  s : x.s ≤ y.s
  a : x.a ≤ y.a
  c : x.c ≤ y.c
  k : x.k ≤ y.k
  d : x.d ≤ y.d
theorem V.le_of {x y : V} (h : x.leB y = true) : x.Le y := by
 simp only [V.leB, Bool.and_eq_true, decide_eq_true_eq] at h
 exact ⟨h.1.1.1.1, h.1.1.1.2, h.1.1.2, h.1.2, h.2⟩
def V.max (x y : V) : V := ⟨Nat.max x.s y.s, Nat.max x.a y.a, Nat.max x.c y.c, Nat.max x.k y.k, Nat.max x.d y.d⟩
theorem V.le_maxL (x y : V) : x.Le (x.max y) := ⟨Nat.le_max_left .., Nat.le_max_left .., Nat.le_max_left .., Nat.le_max_left .., Nat.le_max_left ..⟩
theorem V.le_maxR (x y : V) : y.Le (x.max y) := ⟨Nat.le_max_right .., Nat.le_max_right .., Nat.le_max_right .., Nat.le_max_right .., Nat.le_max_right ..⟩
theorem V.Le.refl (x : V) : x.Le x := ⟨Nat.le_refl _, Nat.le_refl _, Nat.le_refl _, Nat.le_refl _, Nat.le_refl _⟩
theorem V.Le.trans {x y z : V} (h : x.Le y) (g : y.Le z) : x.Le z := ⟨Nat.le_trans h.s g.s, Nat.le_trans h.a g.a, Nat.le_trans h.c g.c, Nat.le_trans h.k g.k, Nat.le_trans h.d g.d⟩
structure GoodV (n : Int) (o : Ord) (v : V) : Prop where
  g : DG (deepM o) v.s v.a v.c
  w : ∀ p d : Int, p + v.k ≤ 4096 → 1 ≤ d → d + v.d ≤ 17 → (wl o p d).2 = n ∧ (wl o p d).1 ≤ p + v.k
theorem GoodV.le {n : Int} {o : Ord} {v w : V} (h : GoodV n o v) (l : v.Le w) : GoodV n o w := by
 have l1 := l.s; have l2 := l.a; have l3 := l.c; have l4 := l.k; have l5 := l.d
 refine ⟨fun x b => (h.g x b).mono (by omega) (by omega) (by omega), fun p d h1 h2 h3 => ?_⟩
 have := h.w p d (by omega) h2 (by omega)
 exact ⟨this.1, by omega⟩
theorem GoodV.len {n : Int} {o : Ord} {v : V} (h : GoodV n o v) (hk : v.k ≤ 4096) (hd : v.d ≤ 16) : o.len = n := (h.w 0 1 (by omega) (by omega) (by omega)).1
def vD (n : Nat) : V := ⟨1, n, 0, 1, 1⟩
def vF (n : Nat) : V := ⟨2, n + 1, 0, 1, 1⟩
def tD (a b : Nat) (w : V) : V := ⟨a * (w.s + 1) + b * 2, a * (w.a + b) + b * (2 * a), a * b + a + w.c, w.k + 2, w.d + 1⟩
def tF (a b : Nat) (w : V) : V := ⟨a * (w.s + 1) + 1, a * (w.a + b) + b, w.c, w.k + 2, w.d + 1⟩
def vB (m : Nat) (w : V) : V := ⟨3 * w.s + 10, 3 * w.a + 10 * m, 4 * m + w.c, w.k + 1, w.d + 1⟩
theorem good_D {n : Nat} (h1 : 1 ≤ n) (h2 : n ≤ 64) : GoodV n (.mk 1 n []) (vD n) :=
 ⟨by simpa [vD] using dg_direct (n := n) (by omega), fun p d hp h3 h4 => by
  simp only [vD] at hp h4
  rw [wl_leaf (by omega) rfl, if_pos ⟨rfl, by simp only [Ord.n]; omega, by simp only [Ord.n]; omega⟩]
  exact ⟨O, by simp [vD]⟩⟩
theorem good_F {n : Nat} (h1 : 2 ≤ n) (h2 : n ≤ 5) : GoodV n (.mk 2 n []) (vF n) :=
 ⟨by simpa [vF] using dg_fly (n := n) (by omega), fun p d hp h3 h4 => by
  simp only [vF] at hp h4
  rw [wl_leaf (by omega) rfl, if_neg (by simp [Ord.kind]), if_pos ⟨rfl, by simp only [Ord.n]; omega, by simp only [Ord.n]; omega⟩]
  exact ⟨O, by simp [vF]⟩⟩
theorem wl_times {a b : Nat} {h o : Ord} {x w : V} (gh : GoodV a h x) (go : GoodV b o w) (hx : x.k = 1 ∧ x.d = 1) (ha : 2 ≤ a) (hb : 2 ≤ b) (hab : a * b ≤ 16384) (hw : 1 ≤ w.d) {p d : Int} (hp : p + (w.k + 2 : Nat) ≤ 4096) (h3 : 1 ≤ d) (h4 : d + (w.d + 1 : Nat) ≤ 17) :
  (wl (.mk 3 0 [h, o]) p d).2 = ((a * b : Nat) : Int) ∧ (wl (.mk 3 0 [h, o]) p d).1 ≤ p + (w.k + 2 : Nat) := by
 have w1 := gh.w (p + 1) (d + 1) (by omega) (by omega) (by omega)
 rw [wl_two (a := h) (b := o) (by omega) rfl, if_pos ⟨rfl, rfl⟩, w1.1, if_neg (by omega)]
 have hle := w1.2
 have w2 := go.w (wl h (p + 1) (d + 1)).1 (d + 1) (by omega) (by omega) (by omega)
 have e : (a : Int) * (b : Int) = ((a * b : Nat) : Int) := by push_cast; rfl
 rw [w2.1, e, if_neg (by omega)]
 exact ⟨O, by have := w2.2; simp only; omega⟩
theorem good_tD {a b : Nat} {o : Ord} {w : V} (go : GoodV b o w) (ha : 2 ≤ a) (ha2 : a ≤ 16) (hb : 2 ≤ b) (hab : a * b ≤ 16384) (hw : 1 ≤ w.d) (hk : w.k ≤ 4096) (hd : w.d ≤ 16) : GoodV ((a * b : Nat) : Int) (.mk 3 0 [.mk 1 a [], o]) (tD a b w) := by
 have gh := good_D (n := a) (by omega) (by omega)
 refine ⟨?_, fun p d hp h3 h4 => wl_times gh go ⟨O, O⟩ ha hb hab hw hp h3 h4⟩
 have h1 := dg_timesD (a := .mk 1 a []) (b := o) (by simp [Ord.kind]) gh.g go.g (by omega) (by simp only [vD]; omega) (by omega) (by omega) (by omega) (by omega)
 have la : (Ord.mk 1 (a : Int) []).len = a := gh.len (by simp [vD]) (by simp [vD])
 have lb : o.len = b := go.len hk hd
 rw [la, lb] at h1
 intro x bl
 refine (h1 x bl).mono ?_ ?_ ?_ <;> simp only [tD, vD] <;> push_cast
 · omega
 ·
  have : (b : Int) * (2 * (a : Int)) = (b : Int) * ((a : Int) + (a : Int)) := by rw [Int.two_mul]
  omega
 · omega
theorem good_tF {a b : Nat} {o : Ord} {w : V} (go : GoodV b o w) (ha : 2 ≤ a) (ha2 : a ≤ 5) (hb : 2 ≤ b) (hab : a * b ≤ 16384) (hw : 1 ≤ w.d) (hk : w.k ≤ 4096) (hd : w.d ≤ 16) : GoodV ((a * b : Nat) : Int) (.mk 3 0 [.mk 2 a [], o]) (tF a b w) := by
 have gh := good_F (n := a) ha ha2
 refine ⟨?_, fun p d hp h3 h4 => wl_times gh go ⟨O, O⟩ ha hb hab hw hp h3 h4⟩
 have h1 := dg_timesF (a := .mk 2 a []) (b := o) rfl go.g (by omega) (by omega) (by omega)
 have la : (Ord.mk 2 (a : Int) []).len = a := gh.len (by simp [vF]) (by simp [vF])
 have lb : o.len = b := go.len hk hd
 rw [la, lb] at h1
 intro x bl
 refine (h1 x bl).mono ?_ ?_ ?_ <;> simp only [tF] <;> push_cast <;> omega
theorem good_B {n m : Nat} {o : Ord} {w : V} (go : GoodV m o w) (hn : 2 ≤ n) (hn2 : n ≤ 16384) (hm : 2 * n - 1 ≤ m) (hk : w.k ≤ 4096) (hd : w.d ≤ 16) : GoodV n (.mk 4 n [o]) (vB m w) := by
 have lb : o.len = m := go.len hk hd
 refine ⟨?_, fun p d hp h3 h4 => ?_⟩
 ·
  have h1 := dg_blue (n := n) go.g (by omega) (by rw [lb]; omega) (by omega) (by omega) (by omega)
  rw [lb] at h1
  intro x bl
  refine (h1 x bl).mono ?_ ?_ ?_ <;> simp only [vB] <;> push_cast <;> omega
 ·
  simp only [vB] at hp h4
  have w1 := go.w (p + 1) (d + 1) (by omega) (by omega) (by omega)
  rw [wl_one (a := o) (by omega) rfl, if_pos ⟨rfl, by simp only [Ord.n]; omega, by simp only [Ord.n]; omega⟩, w1.1, if_neg (by simp only [Ord.n]; omega)]
  exact ⟨O, by have := w1.2; simp only [vB]; omega⟩
def szF : Nat → Ord → Option (Nat × V)
 | 0, _ => none
 | f + 1, .mk k n ks => match ks with
  | [] => if k = 1 ∧ 1 ≤ n ∧ n ≤ 16 then some (n.toNat, vD n.toNat) else if k = 2 ∧ 2 ≤ n ∧ n ≤ 5 then some (n.toNat, vF n.toNat) else none
  | [.mk k1 n1 [], b] => if k = 3 ∧ n = 0 then
    match szF f b with
    | none => none
    | some (m, w) => if 2 ≤ n1 ∧ n1 ≤ 16 ∧ 2 ≤ m ∧ n1.toNat * m ≤ 16384 ∧ 1 ≤ w.d ∧ w.k ≤ 4096 ∧ w.d ≤ 16 then
      (if k1 = 1 then some (n1.toNat * m, tD n1.toNat m w) else if k1 = 2 ∧ n1 ≤ 5 then some (n1.toNat * m, tF n1.toNat m w) else none) else none
   else none
  | _ => none
theorem szF_good : ∀ (f : Nat) (o : Ord) {m : Nat} {v : V}, szF f o = some (m, v) → GoodV m o v
 | 0, _, _, _, h => by cases h
 | f + 1, .mk k n ks, m, v, h => by
  unfold szF at h
  split at h
  ·
   split at h
   ·
    rename_i h1
    obtain ⟨rfl, h2, h3⟩ := h1
    injection h with h
    injection h with h4 h5
    subst h4 h5
    have := good_D (n := n.toNat) (by omega) (by omega)
    rwa [show ((n.toNat : Nat) : Int) = n by omega] at this ⊢
   ·
    split at h
    ·
     rename_i h1
     obtain ⟨rfl, h2, h3⟩ := h1
     injection h with h
     injection h with h4 h5
     subst h4 h5
     have := good_F (n := n.toNat) (by omega) (by omega)
     rwa [show ((n.toNat : Nat) : Int) = n by omega] at this ⊢
    · cases h
  ·
   rename_i k1 n1 b
   split at h
   ·
    rename_i h1
    obtain ⟨rfl, rfl⟩ := h1
    split at h
    · cases h
    ·
     rename_i m' w hb
     have gb := szF_good f b hb
     split at h
     ·
      rename_i h2
      obtain ⟨c1, c2, c3, c4, c5, c6, c7⟩ := h2
      have e : ((n1.toNat : Nat) : Int) = n1 := by omega
      split at h
      ·
       rename_i hk
       subst hk
       injection h with h
       injection h with h4 h5
       subst h4 h5
       have := good_tD gb (a := n1.toNat) (by omega) (by omega) c3 c4 c5 c6 c7
       rwa [e] at this
      ·
       split at h
       ·
        rename_i hk
        obtain ⟨rfl, hk⟩ := hk
        injection h with h
        injection h with h4 h5
        subst h4 h5
        have := good_tF gb (a := n1.toNat) (by omega) (by omega) c3 c4 c5 c6 c7
        rwa [e] at this
       · cases h
     · cases h
   · cases h
  · cases h
end Go.Tm
namespace Go.Tm
inductive Trie where
  | e
  | n (v : Option V) (l r : Trie)
def Trie.get : Trie → Nat → Option V
 | .e, _ => none
 | .n v l r, i => if Nat.ble i 1 = true then v else if Nat.beq (i % 2) 0 = true then l.get (i / 2) else r.get (i / 2)
def Trie.val : Trie → Option V
 | .e => none
 | .n v _ _ => v
def Trie.left : Trie → Trie
 | .e => .e
 | .n _ l _ => l
def Trie.right : Trie → Trie
 | .e => .e
 | .n _ _ r => r
def Trie.set : Nat → Trie → Nat → V → Trie
 | 0, t, _, _ => t
 | f + 1, t, i, x => if Nat.ble i 1 = true then .n (some x) t.left t.right else if Nat.beq (i % 2) 0 = true then .n t.val (Trie.set f t.left (i / 2) x) t.right else .n t.val t.left (Trie.set f t.right (i / 2) x)
theorem Trie.get_eq (t : Trie) (i : Nat) : t.get i = if i ≤ 1 then t.val else if i % 2 = 0 then t.left.get (i / 2) else t.right.get (i / 2) := by
 cases t with
 | e => simp [Trie.get, Trie.val, Trie.left, Trie.right]
 | n v l r => simp [Trie.get, Trie.val, Trie.left, Trie.right]
theorem Trie.get_set : ∀ (f : Nat) (t : Trie) (i j : Nat) (x u : V), 1 ≤ i → 1 ≤ j → (Trie.set f t i x).get j = some u → (j = i ∧ u = x) ∨ t.get j = some u
 | 0, t, i, j, x, u, _, _, h => .inr h
 | f + 1, t, i, j, x, u, hi, hj, h => by
  rw [Trie.set] at h
  simp only [Nat.ble_eq, Nat.beq_eq] at h
  rw [Trie.get_eq t j]
  split at h
  ·
   rename_i h1
   rw [Trie.get_eq] at h
   simp only [Trie.val, Trie.left, Trie.right] at h
   split at h
   ·
    rename_i h2
    injection h with h
    exact .inl ⟨by omega, h.symm⟩
   ·
    rename_i h2
    rw [if_neg h2]; exact .inr h
  ·
   rename_i h1
   split at h
   ·
    rename_i h2
    rw [Trie.get_eq] at h
    simp only [Trie.val, Trie.left, Trie.right] at h
    split at h
    · rename_i h3; rw [if_pos h3]; exact .inr h
    ·
     rename_i h3
     rw [if_neg h3]
     split at h
     ·
      rename_i h4
      rw [if_pos h4]
      rcases Trie.get_set f t.left (i / 2) (j / 2) x u (by omega) (by omega) h with ⟨h5, h6⟩ | h5
      · exact .inl ⟨by omega, h6⟩
      · exact .inr h5
     · rename_i h4; rw [if_neg h4]; exact .inr h
   ·
    rename_i h2
    rw [Trie.get_eq] at h
    simp only [Trie.val, Trie.left, Trie.right] at h
    split at h
    · rename_i h3; rw [if_pos h3]; exact .inr h
    ·
     rename_i h3
     rw [if_neg h3]
     split at h
     · rename_i h4; rw [if_pos h4]; exact .inr h
     ·
      rename_i h4
      rw [if_neg h4]
      rcases Trie.get_set f t.right (i / 2) (j / 2) x u (by omega) (by omega) h with ⟨h5, h6⟩ | h5
      · exact .inl ⟨by omega, h6⟩
      · exact .inr h5
def addA (T : Trie) (n : Nat) : Option V → Nat → Option V
 | none, _ => none
 | some v, a => if (Nat.beq (n % a) 0 && Nat.blt a n) = true then
   (match T.get (n / a) with
   | none => none
   | some w => some (if Nat.ble a 5 = true then (v.max (tD a (n / a) w)).max (tF a (n / a) w) else v.max (tD a (n / a) w)))
  else some v
def heads16 : List Nat := [2, 3, 4, 5, 6, 7, 8, 9, 10, 11, 12, 13, 14, 15, 16]
def v0 (n : Nat) : V := if Nat.ble n 16 = true then (if Nat.ble n 5 = true then (vD n).max (vF n) else vD n) else ⟨0, 0, 0, 1, 1⟩
def addH (T : Trie) (n : Nat) (h : Bool) : Option V → Option V
 | none => none
 | some v => if h = true then
   (match T.get (up2 (2 * n - 1)).toNat with
   | none => none
   | some w => some (v.max (vB (up2 (2 * n - 1)).toNat w)))
  else some v
def fitV (n : Nat) (v : V) : Bool := Nat.ble v.s 65536 && Nat.ble v.a 67108864 && Nat.ble (2 * n + v.c) 262144 && Nat.ble v.k 4096 && Nat.ble v.d 16 && Nat.ble 1 v.d
def someN (n : Nat) (h : Bool) : Bool := Nat.ble n 16 || (h || heads16.any fun a => Nat.beq (n % a) 0)
def stepT (T : Trie) (n : Nat) (h : Bool) : Option Trie :=
 match addH T n h (heads16.foldl (addA T n) (some (v0 n))) with
 | none => none
 | some v => if (fitV n v && someN n h) = true then (fun T' : Trie => if (T'.get n).isSome = true then some T' else none) (T.set 14 n v) else none
def nextT (H : Nat → Bool) (T : Trie) (n : Nat) : Option Trie := if (T.get n).isSome = true then some T else stepT T n (H n)
def runT (H : Nat → Bool) : Nat → Nat → Trie → Option Trie
 | 0, _, T => some T
 | f + 1, n, T => match nextT H T n with
  | none => none
  | some T' => runT H f (n + 1) T'
def hardN (n : Nat) : Bool := hardM PU (facs n) n
def baseL : List (Nat × V) := [(0, ⟨1, 1, 0, 1, 1⟩), (1, ⟨2, 3, 0, 1, 1⟩), (2, ⟨2, 5, 0, 1, 1⟩), (3, ⟨7, 22, 0, 3, 2⟩), (4, ⟨13, 40, 0, 3, 2⟩), (5, ⟨29, 128, 0, 5, 3⟩), (6, ⟨57, 240, 0, 5, 3⟩), (7, ⟨117, 672, 0, 7, 4⟩), (8, ⟨233, 1280, 0, 7, 4⟩), (9, ⟨469, 3328, 0, 9, 5⟩), (10, ⟨937, 6400, 0, 9, 5⟩), (11, ⟨1877, 15872, 0, 11, 6⟩), (12, ⟨3753, 30720, 0, 11, 6⟩), (13, ⟨7509, 73728, 0, 13, 7⟩)]
def base0 : Trie := baseL.foldl (fun T x => Trie.set 14 T (2 ^ x.1) x.2) .e
structure EntV (m : Nat) (v : V) : Prop where
  fit : fitV m v = true
  ok : ∀ r, Best PU m r → 0 ≤ r.2 ∧ GoodV m r.1 v
structure FitP (n : Nat) (v : V) : Prop where
  s : v.s ≤ 65536
  a : v.a ≤ 67108864
  c : 2 * n + v.c ≤ 262144
  k : v.k ≤ 4096
  d : v.d ≤ 16
  d1 : 1 ≤ v.d
theorem fit_of {n : Nat} {v : V} (h : fitV n v = true) : FitP n v := by
 simp only [fitV, Bool.and_eq_true, Nat.ble_eq] at h
 exact ⟨h.1.1.1.1.1, h.1.1.1.1.2, h.1.1.1.2, h.1.1.2, h.1.2, h.2⟩
def Inv (T : Trie) : Prop := ∀ m v, 1 ≤ m → T.get m = some v → EntV m v
theorem upGo_dvd {n a : Int} : ∀ c : Nat, a ∈ upGo n c → 1 ≤ a ∧ n % a = 0
 | 0, h => by simp [upGo] at h
 | c + 1, h => by
  rw [upGo, List.mem_append] at h
  rcases h with h | h
  · exact upGo_dvd c h
  ·
   split at h
   ·
    rename_i h1
    simp at h
    subst h
    exact ⟨by omega, h1⟩
   · simp at h
theorem dnGo_dvd {n a : Int} (hn : 1 ≤ n) (e : Nat) : ∀ c : Nat, c ≤ e → a ∈ dnGo n e c → 1 ≤ a ∧ n % a = 0
 | 0, _, h => by simp [dnGo] at h
 | c + 1, hc, h => by
  rw [dnGo, List.mem_append] at h
  rcases h with h | h
  · exact dnGo_dvd hn e c (by omega) h
  ·
   split at h
   ·
    rename_i h1
    simp at h
    subst h
    have := divE_ok hn (d := (e : Int) - c) (by omega) h1.1
    exact ⟨this.1, this.2.2⟩
   · simp at h
theorem divs_dvd {n a : Int} (hn : 1 ≤ n) {e : Nat} (h : a ∈ divsAt n e) : 1 ≤ a ∧ n % a = 0 := by
 rw [divsAt, List.mem_append] at h
 rcases h with h | h
 · exact upGo_dvd _ h
 · exact dnGo_dvd hn e e (Nat.le_refl e) h
theorem upGo_mem {n : Int} {a : Nat} (h1 : 1 ≤ a) (h : n % (a : Int) = 0) : ∀ c : Nat, a ≤ c → (a : Int) ∈ upGo n c
 | 0, hc => by omega
 | c + 1, hc => by
  rw [upGo, List.mem_append]
  by_cases e : a = c + 1
  ·
   subst e
   exact .inr (by rw [if_pos (by exact_mod_cast h)]; simp)
  · exact .inl (upGo_mem h1 h c (by omega))
theorem dnGo_mem {n : Int} {e d : Nat} (hd : 1 ≤ d) (he : d ≤ e) (h : n % (d : Int) = 0) (h2 : (d : Int) ≤ n / d) : ∀ c : Nat, e - d < c → n / (d : Int) ∈ dnGo n e c
 | 0, hc => by omega
 | c + 1, hc => by
  rw [dnGo, List.mem_append]
  by_cases q : c = e - d
  ·
   have e1 : (e : Int) - (c : Int) = d := by omega
   exact .inr (by rw [e1, if_pos ⟨h, h2⟩]; simp)
  · exact .inl (dnGo_mem hd he h h2 c (by omega))
theorem isq_spec {n : Int} (hn : n ≤ 16384) : 1 ≤ isq n ∧ n ≤ (isq n : Int) * isq n := by
 unfold isq
 cases h : (List.range 200).find? fun e : Nat => decide (n ≤ (e : Int) * e) && decide (1 ≤ e) with
 | none =>
  have := List.find?_eq_none.1 h 128 (by simp)
  simp at this
  omega
 | some e =>
  have := List.find?_some h
  simp only [Bool.and_eq_true, decide_eq_true_eq] at this
  exact ⟨this.2, this.1⟩
theorem divs_mem {n a : Nat} (hn : n ≤ 16384) (ha : 1 ≤ a) (han : a ≤ n) (h : n % a = 0) : (a : Int) ∈ divsAt n (isq n) := by
 obtain ⟨h1, h2⟩ := isq_spec (n := n) (by omega)
 rw [divsAt, List.mem_append]
 have hz : (n : Int) % (a : Int) = 0 := by exact_mod_cast h
 by_cases hl : a ≤ isq n - 1
 · exact .inl (upGo_mem ha hz _ hl)
 ·
  have hge : isq n ≤ a := by omega
  have e : n / a * a = n := Nat.div_mul_cancel (Nat.dvd_of_mod_eq_zero h)
  have h2' : n ≤ isq n * isq n := by exact_mod_cast h2
  have hd1 : 1 ≤ n / a := Nat.div_pos han ha
  have hd2 : n / a ≤ isq n := by
   have h3 : n / a * a ≤ isq n * a := by rw [e]; exact Nat.le_trans h2' (Nat.mul_le_mul_left _ hge)
   exact Nat.le_of_mul_le_mul_right h3 ha
  have e2 : n / (n / a) = a := by
   have : n / a * a / (n / a) = a := Nat.mul_div_cancel_left a hd1
   rwa [e] at this
  have hm : n % (n / a) = 0 := by
   have : n / a * a % (n / a) = 0 := Nat.mul_mod_right _ _
   rwa [e] at this
  have := dnGo_mem (n := n) (e := isq n) (d := n / a) hd1 hd2 (by exact_mod_cast hm) (by
   have : ((n / a : Nat) : Int) ≤ ((n / (n / a) : Nat) : Int) := by rw [e2]; omega
   simpa using this) (isq n) (by omega)
  have q : (n : Int) / ((n / a : Nat) : Int) = (a : Int) := by
   have : ((n / (n / a) : Nat) : Int) = (a : Int) := by rw [e2]
   simpa using this
  rw [q] at this
  exact .inr this
theorem offerM_pos {b : Ord × Int} {o : Ord} {c : Int} (hc : 0 ≤ c) : 0 ≤ (offerM b o c).2 := by
 unfold offerM
 split
 · exact hc
 · omega
def Qv (n : Int) (v : V) (b : Ord × Int) : Prop := 0 ≤ b.2 → GoodV n b.1 v
theorem offerM_q {n : Int} {v : V} {b : Ord × Int} {o : Ord} {c : Int} (hb : Qv n v b) (ho : GoodV n o v) : Qv n v (offerM b o c) := by
 unfold offerM
 split
 · exact fun _ => ho
 · exact hb
theorem heads_mem {a : Int} {h : Ord} (hh : h ∈ headsM PU a) : (h = .mk 1 a [] ∧ a ≤ 16) ∨ (h = .mk 2 a [] ∧ 2 ≤ a ∧ a ≤ 5) := by
 unfold headsM at hh
 rw [List.mem_append] at hh
 rcases hh with hh | hh
 ·
  split at hh
  · rename_i h1; simp at hh; exact .inl ⟨hh, h1⟩
  · simp at hh
 ·
  split at hh
  ·
   rename_i h1
   simp at hh
   simp [PU] at h1
   exact .inr ⟨hh, by omega, by omega⟩
  · simp at hh
theorem foldl_inv {α β : Type} {f : β → α → β} {Q : β → Prop} {l : List α} (h : ∀ b, ∀ x ∈ l, Q b → Q (f b x)) : ∀ b, Q b → Q (l.foldl f b) := by
 induction l with
 | nil => exact fun b hb => hb
 | cons x t ih => exact fun b hb => ih (fun b y hy => h b y (List.mem_cons_of_mem _ hy)) _ (h b x (List.mem_cons_self ..) hb)
theorem best0_q {n : Nat} {v : V} (h1 : n ≤ 16 → (vD n).Le v) (h2 : 2 ≤ n ∧ n ≤ 5 → (vF n).Le v) (hn : 1 ≤ n) : Qv n v (best0 PU n) := by
 unfold best0
 refine foldl_inv (Q := Qv n v) (fun b x hx hb => ?_) _ (fun h => absurd h (by decide))
 rcases heads_mem hx with ⟨rfl, h⟩ | ⟨rfl, h, h'⟩
 · exact offerM_q hb ((good_D hn (by omega)).le (h1 (by omega)))
 · exact offerM_q hb ((good_F (by omega) (by omega)).le (h2 (by omega)))
theorem best0_pos {n : Nat} (h : n ≤ 16) : 0 ≤ (best0 PU n).2 := by
 unfold best0
 have hl : ∀ o ∈ headsM PU n, 0 ≤ lcost o.kind o.n := fun o ho => by
  rcases heads_mem ho with ⟨rfl, h1⟩ | ⟨rfl, h1, h2⟩ <;> exact (lcost_bd (by simp only [Ord.n]; omega) (by simp only [Ord.n]; omega)).1
 have key : ∀ (l : List Ord) (b : Ord × Int), (∀ o ∈ l, 0 ≤ lcost o.kind o.n) → (l ≠ [] ∨ 0 ≤ b.2) → 0 ≤ (l.foldl (fun b o => offerM b o (lcost o.kind o.n)) b).2 := by
  intro l
  induction l with
  | nil => intro b _ h; rcases h with h | h; exact absurd rfl h; exact h
  | cons x t ih => intro b hx _; exact ih _ (fun o ho => hx o (List.mem_cons_of_mem _ ho)) (.inr (offerM_pos (hx x (List.mem_cons_self ..))))
 refine key _ _ hl (.inl ?_)
 have : (PU.direct : Int) = 16 := rfl
 unfold headsM
 rw [this, if_pos (by omega)]
 simp
theorem goM_q {rec : Int → Option (Ord × Int)} {n : Nat} {v : V} (hn : 1 ≤ n) (hn2 : n ≤ 16384) (hrec : ∀ (a : Nat), 2 ≤ a → a ≤ 16 → a < n → n % a = 0 → ∀ r', rec ((n : Int) / a) = some r' → 0 ≤ r'.2 ∧ (GoodV n (.mk 3 0 [.mk 1 a [], r'.1]) v) ∧ (a ≤ 5 → GoodV n (.mk 3 0 [.mk 2 a [], r'.1]) v)) :
  ∀ (l : List Int) (b r : Ord × Int), (∀ a ∈ l, 1 ≤ a ∧ (n : Int) % a = 0) → goM rec PU n l b = some r → Qv n v b → Qv n v r ∧ (0 ≤ b.2 → 0 ≤ r.2) ∧ ((∃ a ∈ l, 2 ≤ a ∧ a ≤ 16 ∧ a < n) → 0 ≤ r.2)
 | [], b, r, _, h, hb => by
  simp only [goM] at h
  injection h with h
  subst h
  exact ⟨hb, id, fun ⟨a, h, _⟩ => absurd h (by simp)⟩
 | a :: t, b, r, hl, h, hb => by
  simp only [goM] at h
  obtain ⟨ha1, ha2⟩ := hl a (List.mem_cons_self ..)
  have key : ∀ b', stepM rec PU n b a = some b' → Qv n v b' ∧ (0 ≤ b.2 → 0 ≤ b'.2) ∧ ((2 ≤ a ∧ a ≤ 16 ∧ a < n) → 0 ≤ b'.2) := by
   intro b' hs
   unfold stepM at hs
   split at hs
   ·
    rename_i h1
    injection hs with hs
    subst hs
    exact ⟨hb, id, fun h => by omega⟩
   ·
    rename_i h1
    have hale : a ≤ n := Int.le_of_dvd (by omega) (Int.dvd_of_emod_eq_zero ha2)
    split at hs
    ·
     rename_i h2
     injection hs with hs
     subst hs
     refine ⟨hb, id, fun h => ?_⟩
     exfalso
     have : (PU.direct : Int) = 16 := rfl
     unfold headsM at h2
     rw [this, if_pos (by omega)] at h2
     simp at h2
    ·
     rename_i h2
     split at hs
     · cases hs
     ·
      rename_i r' hr'
      injection hs with hs
      subst hs
      obtain ⟨x, hx⟩ : ∃ x, x ∈ headsM PU a := List.exists_mem_of_ne_nil _ h2
      have ha16 : a ≤ 16 := by rcases heads_mem hx with ⟨_, h⟩ | ⟨_, _, h⟩ <;> omega
      obtain ⟨m, rfl⟩ : ∃ m : Nat, a = m := ⟨a.toNat, by omega⟩
      obtain ⟨g1, g2, g3⟩ := hrec m (by omega) (by omega) (by omega) (by exact_mod_cast ha2) r' hr'
      have hq1 : 1 ≤ (n : Int) / (m : Int) ∧ (n : Int) / (m : Int) ≤ n := by
       have := divE_ok (n := n) (d := m) (by omega) (by omega) ha2
       exact ⟨this.1, this.2.1⟩
      have hpos : ∀ (b : Ord × Int) (x : Ord), x ∈ headsM PU m → 0 ≤ (offerH n m r' b x).2 := by
       intro b x hx
       unfold offerH
       rw [if_pos g1]
       refine offerM_pos (timesC_bd (by omega) (by omega) hq1.1 (by omega) ?_ g1).1
       rcases heads_mem hx with ⟨rfl, h⟩ | ⟨rfl, h, h'⟩ <;> exact (lcost_bd (by simp only [Ord.n]; omega) (by simp only [Ord.n]; omega)).1
      have hq : Qv n v ((headsM PU m).foldl (offerH n m r') b) := by
       refine foldl_inv (Q := Qv n v) (fun b x hx hb => ?_) _ hb
       unfold offerH
       rw [if_pos g1]
       rcases heads_mem hx with ⟨rfl, h⟩ | ⟨rfl, h, h'⟩
       · exact offerM_q hb g2
       · exact offerM_q hb (g3 (by omega))
      have hp2 : 0 ≤ ((headsM PU m).foldl (offerH n m r') b).2 := by
       have : ∀ (l : List Ord) (b : Ord × Int), (∀ x ∈ l, x ∈ headsM PU m) → (l ≠ [] ∨ 0 ≤ b.2) → 0 ≤ (l.foldl (offerH n m r') b).2 := by
        intro l
        induction l with
        | nil => intro b _ h; rcases h with h | h; exact absurd rfl h; exact h
        | cons x t ih => intro b hx _; exact ih _ (fun o ho => hx o (List.mem_cons_of_mem _ ho)) (.inr (hpos b x (hx x (List.mem_cons_self ..))))
       exact this _ _ (fun _ h => h) (.inl h2)
      exact ⟨hq, fun _ => hp2, fun _ => hp2⟩
  cases hs : stepM rec PU n b a with
  | none => rw [hs] at h; cases h
  | some b' =>
   rw [hs] at h
   obtain ⟨k1, k2, k3⟩ := key b' hs
   obtain ⟨i1, i2, i3⟩ := goM_q hn hn2 hrec t b' r (fun x hx => hl x (List.mem_cons_of_mem _ hx)) h k1
   refine ⟨i1, fun hb => i2 (k2 hb), ?_⟩
   rintro ⟨x, hx, h1, h2, h3⟩
   rcases List.mem_cons.1 hx with rfl | hx
   · exact i2 (k3 ⟨h1, h2, h3⟩)
   · exact i3 ⟨x, hx, h1, h2, h3⟩
theorem addA_le (T : Trie) (n : Nat) : ∀ (l : List Nat) (x : Option V) (v : V), l.foldl (addA T n) x = some v → ∃ u, x = some u ∧ u.Le v ∧ ∀ a ∈ l, n % a = 0 → a < n → ∃ w, T.get (n / a) = some w ∧ (tD a (n / a) w).Le v ∧ (a ≤ 5 → (tF a (n / a) w).Le v)
 | [], x, v, h => ⟨v, h, V.Le.refl v, fun a h => absurd h (by simp)⟩
 | a :: t, x, v, h => by
  obtain ⟨u, h1, h2, h3⟩ := addA_le T n t (addA T n x a) v h
  cases x with
  | none => cases h1
  | some u0 =>
   unfold addA at h1
   simp only at h1
   split at h1
   ·
    rename_i hc
    simp only [Bool.and_eq_true, Nat.beq_eq, Nat.blt_eq] at hc
    split at h1
    · cases h1
    ·
     rename_i w hw
     injection h1 with h1
     have hle : u0.Le u ∧ (tD a (n / a) w).Le u ∧ (a ≤ 5 → (tF a (n / a) w).Le u) := by
      subst h1
      split
      ·
       rename_i h5
       exact ⟨(V.le_maxL _ _).trans (V.le_maxL _ _), (V.le_maxR _ _).trans (V.le_maxL _ _), fun _ => V.le_maxR _ _⟩
      ·
       rename_i h5
       simp only [Nat.ble_eq] at h5
       exact ⟨V.le_maxL _ _, V.le_maxR _ _, fun h => absurd h h5⟩
     refine ⟨u0, O, hle.1.trans h2, fun b hb hm hlt => ?_⟩
     rcases List.mem_cons.1 hb with rfl | hb
     · exact ⟨w, hw, hle.2.1.trans h2, fun h => (hle.2.2 h).trans h2⟩
     · exact h3 b hb hm hlt
   ·
    rename_i hc
    injection h1 with h1
    subst h1
    refine ⟨u0, O, h2, fun b hb hm hlt => ?_⟩
    rcases List.mem_cons.1 hb with rfl | hb
    · exfalso; apply hc; simp [hm, hlt]
    · exact h3 b hb hm hlt
theorem mem_heads16 {a : Nat} (h1 : 2 ≤ a) (h2 : a ≤ 16) : a ∈ heads16 := by
 have : ∀ a : Fin 17, 2 ≤ a.1 → a.1 ∈ heads16 := by decide
 exact this ⟨a, by omega⟩ h1
theorem ent_step {T : Trie} (hT : Inv T) {n : Nat} (hn : 1 ≤ n) (hn2 : n ≤ 4096) {v : V} (hv : addH T n (hardM PU (facs n) n) (heads16.foldl (addA T n) (some (v0 n))) = some v) (hs : someN n (hardM PU (facs n) n) = true) : ∀ r, Best PU n r → 0 ≤ r.2 ∧ GoodV n r.1 v := by
 rintro r ⟨f, hr⟩
 cases f with
 | zero => cases hr
 | succ f =>
  obtain ⟨v1, hv1⟩ : ∃ v1, heads16.foldl (addA T n) (some (v0 n)) = some v1 := by
   cases h : heads16.foldl (addA T n) (some (v0 n)) with
   | none => rw [h] at hv; cases hv
   | some v1 => exact ⟨v1, rfl⟩
  rw [hv1] at hv
  have hle : v1.Le v := by
   unfold addH at hv
   simp only at hv
   split at hv
   ·
    split at hv
    · cases hv
    ·
     injection hv with hv
     subst hv
     exact V.le_maxL _ _
   ·
    injection hv with hv
    subst hv
    exact V.Le.refl _
  obtain ⟨u, hu, hle0, hA⟩ := addA_le T n heads16 _ _ hv1
  injection hu with hu
  subst hu
  have hrec : ∀ (a : Nat), 2 ≤ a → a ≤ 16 → a < n → n % a = 0 → ∀ r', bestF PU f ((n : Int) / a) = some r' → 0 ≤ r'.2 ∧ (GoodV n (.mk 3 0 [.mk 1 a [], r'.1]) v) ∧ (a ≤ 5 → GoodV n (.mk 3 0 [.mk 2 a [], r'.1]) v) := by
   intro a h1 h2 h3 h4 r' hr'
   obtain ⟨w, hw, l1, l2⟩ := hA a (mem_heads16 h1 h2) h4 h3
   have e : n / a * a = n := Nat.div_mul_cancel (Nat.dvd_of_mod_eq_zero h4)
   have hq : 1 ≤ n / a := Nat.div_pos (by omega) (by omega)
   have hq2 : 2 ≤ n / a := by
    rcases Nat.lt_or_ge (n / a) 2 with h | h
    ·
     have : n / a = 1 := by omega
     rw [this] at e; omega
    · exact h
   have ent := hT (n / a) w hq hw
   have ft := fit_of ent.fit
   have := ent.ok r' ⟨f, by rw [← hr']; congr 1⟩
   have e2 : a * (n / a) = n := by rw [Nat.mul_comm]; exact e
   have g1 := good_tD this.2 h1 h2 hq2 (by omega) ft.d1 ft.k ft.d
   rw [e2] at g1
   refine ⟨this.1, g1.le (l1.trans hle), fun h5 => ?_⟩
   have g2 := good_tF this.2 h1 h5 hq2 (by omega) ft.d1 ft.k ft.d
   rw [e2] at g2
   exact g2.le ((l2 h5).trans hle)
  have hb0 : Qv n v (best0 PU n) := by
   refine best0_q (fun h => ?_) (fun h => ?_) hn
   ·
    refine V.Le.trans ?_ (hle0.trans hle)
    unfold v0
    rw [if_pos (by simpa using h)]
    split
    · exact V.le_maxL _ _
    · exact V.Le.refl _
   ·
    refine V.Le.trans ?_ (hle0.trans hle)
    unfold v0
    rw [if_pos (by simp; omega), if_pos (by simp; omega)]
    exact V.le_maxR _ _
  rw [bestF] at hr
  cases hg : goM (bestF PU f) PU n (divsAt n (isq n)) (best0 PU n) with
  | none => rw [hg] at hr; cases hr
  | some b =>
   rw [hg] at hr
   simp only at hr
   obtain ⟨q1, q2, q3⟩ := goM_q hn (by omega) hrec (divsAt n (isq n)) (best0 PU n) b (fun a ha => divs_dvd (by omega) ha) hg hb0
   split at hr
   ·
    rename_i hh
    split at hr
    · cases hr
    ·
     rename_i x hx
     injection hr with hr
     subst hr
     have hm1 : 1 ≤ up2 (2 * (n : Int) - 1) := up2_pos (by omega) (by omega)
     have hm2 : 2 * (n : Int) - 1 ≤ up2 (2 * (n : Int) - 1) := (up2_spec (by omega) (by omega)).2.1
     have hm3 : up2 (2 * (n : Int) - 1) ≤ 2 ^ 13 := up2_le (by omega) (by omega) (by simp; omega)
     have hm4 : (2 : Int) ^ 13 = 8192 := by decide
     obtain ⟨w, hw, hwle⟩ : ∃ w, T.get (up2 (2 * (n : Int) - 1)).toNat = some w ∧ (vB (up2 (2 * (n : Int) - 1)).toNat w).Le v := by
      unfold addH at hv
      simp only at hv
      rw [if_pos hh] at hv
      split at hv
      · cases hv
      ·
       rename_i w hw
       injection hv with hv
       subst hv
       exact ⟨w, hw, V.le_maxR _ _⟩
     have em : (((up2 (2 * (n : Int) - 1)).toNat : Nat) : Int) = up2 (2 * (n : Int) - 1) := by omega
     have ent := hT _ w (by omega) hw
     have ft := fit_of ent.fit
     have hx2 := ent.ok x ⟨f, by rw [em]; exact hx⟩
     have hn1 : 2 ≤ n := by
      rcases Nat.lt_or_ge n 2 with h | h
      ·
       have : n = 1 := by omega
       subst this
       exact absurd hh (by decide)
      · exact h
     have gb := good_B (n := n) hx2.2 hn1 (by omega) (by omega) ft.k ft.d
     have hc := (blueC_bd (n := n) (m := up2 (2 * (n : Int) - 1)) (cm := x.2) (by omega) (by omega) hm1 (by omega) (by omega)).1
     have hp := offerM_pos (b := b) (o := .mk 4 n [x.1]) hc
     exact ⟨hp, offerM_q q1 (gb.le hwle) hp⟩
   ·
    rename_i hh
    injection hr with hr
    subst hr
    have hp : 0 ≤ b.2 := by
     unfold someN at hs
     simp only [Bool.or_eq_true, Nat.ble_eq, List.any_eq_true, Nat.beq_eq] at hs
     rcases hs with hs | hs | ⟨a, ha, hm⟩
     · exact q2 (best0_pos hs)
     · exact absurd hs hh
     ·
      have ha2 : 2 ≤ a ∧ a ≤ 16 := (by decide : ∀ a ∈ heads16, 2 ≤ a ∧ a ≤ 16) a ha
      by_cases h16 : n ≤ 16
      · exact q2 (best0_pos h16)
      · exact q3 ⟨a, divs_mem (by omega) (by omega) (by omega) hm, by omega, by omega, by omega⟩
    exact ⟨hp, q1 hp⟩
theorem stepT_inv {T T' : Trie} (hT : Inv T) {n : Nat} (hn : 1 ≤ n) (hn2 : n ≤ 4096) (h : stepT T n (hardM PU (facs n) n) = some T') : Inv T' ∧ ∃ v, EntV n v := by
 unfold stepT at h
 split at h
 · cases h
 ·
  rename_i v hv
  split at h
  ·
   rename_i hc
   simp only [Bool.and_eq_true] at hc
   simp only at h
   split at h
   ·
    injection h with h
    subst h
    have e : EntV n v := ⟨hc.1, ent_step hT hn hn2 hv hc.2⟩
    refine ⟨fun m u hm hu => ?_, v, e⟩
    rcases Trie.get_set 14 T n m v u hn hm hu with ⟨rfl, rfl⟩ | hu
    · exact e
    · exact hT m u hm hu
   · cases h
  · cases h
theorem runT_inv {H : Nat → Bool} (hH : ∀ n : Nat, n ≤ 4096 → H n = hardM PU (facs n) n) (f : Nat) : ∀ (n : Nat) (T T' : Trie), Inv T → 1 ≤ n → n + f ≤ 4097 → runT H f n T = some T' → ∀ m, n ≤ m → m < n + f → ∃ v, EntV m v := by
 induction f with
 | zero => intro n T T' _ _ _ _ m h1 h2; omega
 | succ f ih =>
  intro n T T' hT hn hf h m h1 h2
  rw [runT] at h
  split at h
  · cases h
  ·
   rename_i T1 hs
   have key : Inv T1 ∧ ∃ v, EntV n v := by
    unfold nextT at hs
    split at hs
    ·
     rename_i hg
     injection hs with hs
     subst hs
     obtain ⟨v, hv⟩ := Option.isSome_iff_exists.1 hg
     exact ⟨hT, v, hT n v hn hv⟩
    ·
     rw [hH n (by omega)] at hs
     exact stepT_inv hT hn (by omega) hs
   obtain ⟨i1, v, hv⟩ := key
   by_cases e : m = n
   · subst e; exact ⟨v, hv⟩
   · exact ih (n + 1) T1 T' i1 (by omega) (by omega) h m (by omega) (by omega)
def exO : Nat → Ord
 | 0 => .mk 1 1 []
 | 1 => .mk 2 2 []
 | 2 => .mk 2 4 []
 | k + 3 => if Nat.beq (k % 2) 0 = true then .mk 3 0 [.mk 2 2 [], exO (k + 2)] else .mk 3 0 [.mk 2 4 [], exO (k + 1)]
def exC : List Int := [8, 4, 16, 66, 182, 518, 1254, 3142, 7174, 16902, 37382, 84998, 184326, 409606]
def ex (k : Nat) : Ord × Int := (exO k, exC.getD k 0)
def recK (k : Nat) (m : Int) : Option (Ord × Int) := ((List.range k).find? fun j => decide ((2 : Int) ^ j = m)).map ex
def goK (k : Nat) : Option (Ord × Int) := goM (recK k) PU (2 ^ k) (divsAt (2 ^ k) (isq (2 ^ k))) (best0 PU (2 ^ k))
theorem best_pow (h : ∀ k, k < 14 → goK k = some (ex k)) : ∀ k : Nat, k < 14 → bestF PU (k + 1) (2 ^ k) = some (ex k) := by
 intro k
 induction k using Nat.strongRecOn with
 | _ k ih =>
  intro hk
  have hrec : ∀ n r, recK k n = some r → bestF PU k n = some r := by
   intro n r hr
   unfold recK at hr
   rw [Option.map_eq_some_iff] at hr
   obtain ⟨j, hj, rfl⟩ := hr
   have h1 := List.find?_some hj
   have h2 := List.mem_range.1 (List.mem_of_find?_eq_some hj)
   simp only [decide_eq_true_eq] at h1
   subst h1
   exact bestF_le (by omega) (ih j h2 (by omega))
  have hg := goM_mono hrec (h k hk)
  have hp : (2 : Int) ^ k ≤ 16384 := by
   have h1 : (2 : Int) ^ k ≤ 2 ^ 13 := by exact_mod_cast Nat.pow_le_pow_right (by omega : 0 < 2) (by omega : k ≤ 13)
   have h2 : (2 : Int) ^ 13 = 8192 := by decide
   omega
  have hh := hard_pow2 (P := PU) (n := 2 ^ k) (by decide) hp ⟨k, rfl⟩
  rw [bestF, hg]
  simp only [hh, Bool.false_eq_true, if_false]
def baseOk (x : Nat × V) : Bool := fitV (2 ^ x.1) x.2 && (Nat.blt x.1 14 && (decide (0 ≤ (ex x.1).2) && (match szF 40 (ex x.1).1 with
  | some (m, u) => Nat.beq m (2 ^ x.1) && u.leB x.2
  | none => false)))
theorem baseOk_ent (hE : ∀ k, k < 14 → goK k = some (ex k)) {x : Nat × V} (h : baseOk x = true) : EntV (2 ^ x.1) x.2 := by
 unfold baseOk at h
 simp only [Bool.and_eq_true, decide_eq_true_eq, Nat.blt_eq] at h
 obtain ⟨h1, hk, h3, h4⟩ := h
 refine ⟨h1, fun r hr => ?_⟩
 obtain rfl := hr.unique ⟨x.1 + 1, by rw [← best_pow hE x.1 hk]; congr 1⟩
 split at h4
 ·
  rename_i m u hz
  simp only [Bool.and_eq_true, Nat.beq_eq] at h4
  obtain ⟨rfl, h5⟩ := h4
  exact ⟨h3, (szF_good 40 _ hz).le (V.le_of h5)⟩
 · cases h4
theorem base_inv (hE : ∀ k, k < 14 → goK k = some (ex k)) (hb : ∀ x ∈ baseL, baseOk x = true) : Inv base0 := by
 unfold base0
 have h0 : Inv .e := fun m v _ h => by cases h
 have key : ∀ (l : List (Nat × V)) (T : Trie), (∀ x ∈ l, baseOk x = true) → Inv T → Inv (l.foldl (fun T x => Trie.set 14 T (2 ^ x.1) x.2) T) := by
  intro l
  induction l with
  | nil => exact fun T _ h => h
  | cons x t ih =>
   intro T hx hT
   refine ih _ (fun y hy => hx y (List.mem_cons_of_mem _ hy)) fun m u hm hu => ?_
   rcases Trie.get_set 14 T (2 ^ x.1) m x.2 u (Nat.two_pow_pos _) hm hu with ⟨rfl, rfl⟩ | hu
   · exact baseOk_ent hE (hx x (List.mem_cons_self ..))
   · exact hT m u hm hu
 exact key baseL _ hb h0
theorem EntV.has {n : Nat} {v : V} (hn : 1 ≤ n) (h : EntV n v) : HasP PU n := by
 intro r hr
 obtain ⟨h1, h2⟩ := h.ok r hr
 have ft := fit_of h.fit
 have hl := h2.len ft.k ft.d
 refine ⟨hl, ?_⟩
 unfold buildM
 rw [hl]
 have g := h2.g ⟨0, 1, (n : Int)⟩ (bld0 n)
 have f1 := ft.s; have f2 := ft.a; have f3 := ft.c
 obtain ⟨e1, e2, e3, e4⟩ := g
 have b1 : (bld0 n).steps.length = 0 := rfl
 have b2 : (bld0 n).acts = 0 := rfl
 have b3 : (bld0 n).fr = 2 * n := by show (0 : Int) + 2 * n = _; omega
 have b4 : (bld0 n).cl ≤ 2 * n := by
  simp only [bld0, Bld.region]
  split <;> omega
 rw [b1] at e1
 rw [b2] at e2
 rw [b3] at e3
 simp only [Bld.full, Bool.or_eq_false_iff, decide_eq_false_iff_not]
 refine ⟨⟨by omega, by omega⟩, by omega⟩
end Go.Tm
