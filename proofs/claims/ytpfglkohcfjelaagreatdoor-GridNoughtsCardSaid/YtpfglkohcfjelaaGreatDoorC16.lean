/- Lemmas of this claim, joined by program. Whole numbers as floats: sums, differences, products and quotients that are whole are exact. A product by one and a quotient by one are exact, for every float. The document's roots and cosine sums in plain Lean: the same floats as the program's. Plans of any length; cosine transforms in plain Lean. Walks of functions: grids of any numbers, their rows, turned, transformed. Walks of functions: grids turned, cloned, transformed in two dimensions. Relations of floats that go through every transform, in plain Lean. Whole numbers through butterflies, roots and sums: exact. Bounds of floats, in plain Lean: sums, products and quotients stay finite; roots of unity are small. Conditions: each lemma names its own. -/
import Derived.Test.YtpfglkohcfjelaaGreatDoorC09
import Derived.Test.YtpfglkohcfjelaaGreatDoorC10
import Derived.Test.YtpfglkohcfjelaaGreatDoorC13
import Derived.Test.YtpfglkohcfjelaaGreatDoorC15
import Derived.KernelRfl
set_option linter.all false
namespace Go.Tm
open Ieee
def wd (s : Bool) (c : Nat) : Nat := (if s then 2 ^ 63 else 0) + (if c = 0 then 0 else (1022 + c.log2) * 2 ^ 52 + c * 2 ^ (52 - c.log2))
theorem log2_bd {c : Nat} (h0 : c ≠ 0) (h : c < 2 ^ 53) : c.log2 ≤ 52 ∧ 2 ^ 52 ≤ c * 2 ^ (52 - c.log2) ∧ c * 2 ^ (52 - c.log2) < 2 ^ 53 := by
  have h1 : 2 ^ c.log2 ≤ c := Nat.log2_self_le h0
  have h2 : c < 2 ^ (c.log2 + 1) := Nat.lt_log2_self
  have h3 : c.log2 ≤ 52 := by
    have : c.log2 < 53 := (Nat.log2_lt h0).2 h
    omega
  refine ⟨h3, ?_, ?_⟩
  · have := Nat.mul_le_mul_right (2 ^ (52 - c.log2)) h1
    rw [← Nat.pow_add, show c.log2 + (52 - c.log2) = 52 by omega] at this
    exact this
  · have := Nat.mul_lt_mul_of_pos_right h2 (Nat.two_pow_pos (52 - c.log2))
    rw [← Nat.pow_add, show c.log2 + 1 + (52 - c.log2) = 53 by omega] at this
    exact this
theorem read_wd (s : Bool) {c : Nat} (h : c < 2 ^ 53) : ∃ k : Nat, double.read (wd s c) = .number s (c * 2 ^ k) (-(k : Int)) ∧ (c ≠ 0 → k + c.log2 = 52) ∧ k ≤ 1074 := by
  by_cases h0 : c = 0
  · subst h0
    refine ⟨1074, ?_, fun h => absurd rfl h, by omega⟩
    generalize (2 : Nat) ^ 1074 = X
    rw [Nat.zero_mul]
    cases s <;> decide
  · obtain ⟨h1, h2, h3⟩ := log2_bd h0 h
    refine ⟨52 - c.log2, ?_, fun _ => by omega, by omega⟩
    have e1 : double.signWeight = 2 ^ 63 := rfl
    have e2 : double.binade = 2 ^ 52 := rfl
    have e3 : double.infRung = (2 ^ 11 - 1) * 2 ^ 52 := rfl
    have e4 : double.leastPlace = -1074 := rfl
    unfold wd
    rw [if_neg h0]
    generalize c * 2 ^ (52 - c.log2) = K at *
    generalize c.log2 = L at *
    unfold Format.read
    simp only [e1, e2, e3, e4]
    have r1 : ((if s = true then 2 ^ 63 else 0) + ((1022 + L) * 2 ^ 52 + K)) % 2 ^ 63 = (1022 + L) * 2 ^ 52 + K := by split <;> omega
    have r2 : (((if s = true then 2 ^ 63 else 0) + ((1022 + L) * 2 ^ 52 + K)) / 2 ^ 63 % 2 == 1) = s := by cases s <;> simp <;> omega
    rw [r1, r2, if_neg (by omega), if_pos (by omega)]
    have r3 : ((1022 + L) * 2 ^ 52 + K) % 2 ^ 52 = K - 2 ^ 52 := by omega
    have r4 : ((1022 + L) * 2 ^ 52 + K) / 2 ^ 52 = 1023 + L := by omega
    have r5 : 2 ^ 52 + (K - 2 ^ 52) = K := by omega
    have r6 : (-1074 : Int) + ((1023 + L - 1 : Nat) : Int) = -((52 - L : Nat) : Int) := by omega
    rw [r3, r4, r5, r6]
theorem cut_whole (s : Bool) {A d n : Nat} (hn : n = A * 2 ^ d) (hd : d ≤ n.log2 + 2) : Toward.even.cut s n d = A := by
  have h2 := Nat.two_pow_pos d
  have e1 : n / 2 ^ d = A := by rw [hn]; exact Nat.mul_div_cancel _ h2
  have e2 : n % 2 ^ d = 0 := by rw [hn]; exact Nat.mul_mod_left _ _
  unfold Toward.cut
  rw [Nat.min_eq_left hd, Nat.one_shiftLeft]
  simp only [e1, e2]
  have : ¬ (2 ^ d < 0) ∧ ¬ (2 ^ d = 0) := by omega
  simp
theorem log2_mul_pow (c k : Nat) (h : c ≠ 0) : (c * 2 ^ k).log2 = c.log2 + k := by
  have h1 : 2 ^ c.log2 ≤ c := Nat.log2_self_le h
  have h2 : c < 2 ^ (c.log2 + 1) := Nat.lt_log2_self
  have h3 : c * 2 ^ k ≠ 0 := by have := Nat.two_pow_pos k; exact Nat.mul_ne_zero h (by omega)
  have a1 := Nat.mul_le_mul_right (2 ^ k) h1
  have a2 := Nat.mul_lt_mul_of_pos_right h2 (Nat.two_pow_pos k)
  rw [← Nat.pow_add] at a1 a2
  have b1 : c.log2 + k ≤ (c * 2 ^ k).log2 := (Nat.le_log2 h3).2 a1
  have b2 : (c * 2 ^ k).log2 < c.log2 + 1 + k := (Nat.log2_lt h3).2 a2
  omega
theorem nearest_wd (s : Bool) {c M k : Nat} (h : c < 2 ^ 53) (hM : M = c * 2 ^ k) : double.nearest s M (-(k : Int)) = wd s c := by
  have e1 : double.signWeight = 2 ^ 63 := rfl
  by_cases h0 : c = 0
  · subst h0
    rw [Nat.zero_mul] at hM; subst hM
    simp [Format.nearest, wd, Format.word, e1]
  · obtain ⟨h1, h2, h3⟩ := log2_bd h0 h
    have hM0 : M ≠ 0 := by rw [hM]; have := Nat.two_pow_pos k; exact Nat.mul_ne_zero h0 (by omega)
    have hL : M.log2 = c.log2 + k := by rw [hM]; exact log2_mul_pow c k h0
    have e2 : double.fractionBits = 52 := rfl
    have e3 : double.infRung = (2 ^ 11 - 1) * 2 ^ 52 := rfl
    have e4 : double.leastPlace = -1074 := rfl
    have e5 : double.binade = 2 ^ 52 := rfl
    unfold Format.nearest
    rw [if_neg hM0, hL, e2, e3, e4, e5]
    have hl : max (-(k : Int) + ((c.log2 + k : Nat) : Int) - ((52 : Nat) : Int)) (-1074) = (c.log2 : Int) - 52 := by omega
    rw [hl]
    have hcut : Toward.even.cut s (M <<< (-(k : Int) - ((c.log2 : Int) - 52)).toNat) ((c.log2 : Int) - 52 - -(k : Int)).toNat = c * 2 ^ (52 - c.log2) := by
      by_cases hk : 52 - c.log2 ≤ k
      · rw [show (-(k : Int) - ((c.log2 : Int) - 52)).toNat = 0 by omega, show ((c.log2 : Int) - 52 - -(k : Int)).toNat = k - (52 - c.log2) by omega, Nat.shiftLeft_zero]
        refine cut_whole s ?_ (by omega)
        rw [hM, Nat.mul_assoc, ← Nat.pow_add, show 52 - c.log2 + (k - (52 - c.log2)) = k by omega]
      · rw [show ((c.log2 : Int) - 52 - -(k : Int)).toNat = 0 by omega, show (-(k : Int) - ((c.log2 : Int) - 52)).toNat = 52 - c.log2 - k by omega]
        refine cut_whole s ?_ (by omega)
        rw [hM, Nat.shiftLeft_eq, Nat.mul_assoc, ← Nat.pow_add, show k + (52 - c.log2 - k) = 52 - c.log2 by omega, Nat.pow_zero, Nat.mul_one]
    show double.word s (min (((c.log2 : Int) - 52 - -1074).toNat * 2 ^ 52 + Toward.even.cut s (M <<< (-(k : Int) - ((c.log2 : Int) - 52)).toNat) ((c.log2 : Int) - 52 - -(k : Int)).toNat) ((2 ^ 11 - 1) * 2 ^ 52)) = _
    rw [hcut]
    unfold wd
    rw [if_neg h0]
    simp only [Format.word, e1]
    generalize c * 2 ^ (52 - c.log2) = K at *
    generalize c.log2 = L at *
    rw [show ((L : Int) - 52 - -1074).toNat = 1022 + L by omega, Nat.min_eq_left (show (1022 + L) * 2 ^ 52 + K ≤ (2 ^ 11 - 1) * 2 ^ 52 by omega)]
    cases s <;> simp
def Wh (x : Fl) (a : Int) : Prop := ∃ s : Bool, x = some (wd s a.natAbs) ∧ (a ≠ 0 → s = decide (a < 0))
def Sm (a : Int) : Prop := a.natAbs < 2 ^ 53
theorem Wh.of_int {a : Int} (ha : Sm a) : Wh (some (FloatKind.f64.nearest a)) a := by
  refine ⟨decide (a < 0), ?_, fun _ => rfl⟩
  show some (double.nearest (decide (a < 0)) a.natAbs 0) = _
  rw [show (0 : Int) = -((0 : Nat) : Int) from rfl, nearest_wd (c := a.natAbs) _ ha (by simp)]
end Go.Tm
namespace Go.Tm
open Ieee
end Go.Tm
namespace Go.Tm
end Go.Tm
namespace Go.Tm
open Go.RowKit Go.Proofs
section
variable {P : Program} {n : Fr} {k : K} {w : World} {d : Option Tmp} {ty : TypeId} {pos : String} {aft : Array Edge} {g : Option (Nat × Bool)}
theorem Rn.fromf {f : FuncId} {fn : Func} {x : Operand} {ts : Array TypeId} {m : Nat} (hf : P.funcs[f]? = some fn) (hname : (fn.name == "runtime.NumGoroutine") = false) (hb : fn.body.isNone = true) (hn : Extern.findNext fn = none)
    (he : Extern.find fn = some Extern.MathFloatBits.float64bits) (hx : ev k x = some (.float .f64 m)) :
    Rn P n k w { dst := d, op := .call { callee := .value (.func f), args := #[x], argTypes := ts }, type := ty, pos := pos, after := aft, guard := g } (.int .u64 m) :=
  fun ac ha => by
    have h1 : ¬ fn.name = "runtime.NumGoroutine" := by simpa using hname
    have h2 : fn.body = none := by simpa using hb
    have h3 : ac.eval (.func f) = .func (.func f) #[] #[] := rfl
    have h4 : (Extern.MathFloatBits.float64bits #[.float .f64 m]).run P w = .ok (.int .u64 m) w := rfl
    simp [execOp, resolve, h3, Deferred.ofValue, invoke, callFunc, hf, h1, h2, hn, he, ha.eval hx, h4]
end
theorem bd_nil (n : Int) : BdOk ({ ln := n, cl := 0, i0 := 0, ou := n, steps := [], acts := 0, fr := 0 } : Bld) := ⟨Int.le_refl _, Int.le_refl _, by simp only; omega, by simp, Int.le_refl _, by simp only; omega⟩
structure BldG (n : Nat) (b : Bld) : Prop where
  ln : b.ln = n
  ok : PrgG b b.cl.toNat
  okb : okB b
  ne : 1 ≤ b.steps.length
  ac : 1 ≤ cntS b.steps
theorem bldG_of {o : Ord} {n : Nat} (h : o.len ≠ 0) (hf : (buildM o).full = false) (hn : o.len = n) : BldG n (buildM o) := by
  have go := GO.of_len h
  have hl := len_bd o
  have h00 := bd_nil o.len
  have h0 : PB ({ ln := o.len, cl := 0, i0 := 0, ou := o.len, steps := [], acts := 0, fr := 0 } : Bld) := ⟨h00, fun s hs => (by cases hs), rfl⟩
  have hb : PB (bld0 o.len) := h0.region (by omega) (by show (0 : Int) + 2 * o.len ≤ 400000; omega)
  have hfr : (bld0 o.len).fr = 2 * o.len := by show (0 : Int) + 2 * o.len = _; omega
  have hcl : 2 * o.len ≤ (bld0 o.len).cl := by have := region_ge ({ ln := o.len, cl := 0, i0 := 0, ou := o.len, steps := [], acts := 0, fr := 0 } : Bld) (2 * o.len); show 2 * o.len ≤ (Bld.region _ (2 * o.len)).cl; simp only at this; omega
  have hx : InsOk ⟨0, 1, o.len⟩ (sl o) (bld0 o.len).fr := by
    rw [← len_sl h, hfr]
    exact ⟨Int.le_refl _, Int.le_refl _, by show (1 : Int) ≤ 262144; decide, by show 0 + (o.len - 1) * 1 < 2 * o.len; omega, by show 0 ≤ o.len; omega, by show o.len + o.len ≤ 2 * o.len; omega, .inl (by show 0 + (o.len - 1) * 1 < o.len; omega)⟩
  have pb : PB (buildM o) := deepG go _ _ hb hx
  have hd : Hd3 (bld0 o.len) (buildM o) := deepM_hd go _ _
  have hne : 1 ≤ (buildM o).steps.length := deepM_len go _ _ hf
  have ff := full_false hf
  have kp : Kp (bld0 o.len) (buildM o) := deepM_keeps go _ _ hb.ok
  have hc := kp.cl
  have e1 : (buildM o).ln = o.len := hd.ln
  have e2 : (buildM o).i0 = 0 := hd.i0
  have e3 : (buildM o).ou = o.len := hd.ou
  have hcn : ∀ s ∈ (buildM o).steps, 1 ≤ s.count := fun s hs => (pb.st s hs).st.cnt.1
  have hac : 1 ≤ cntS (buildM o).steps := by
    have h1 := cntG_pos hcn
    by_cases h2 : cntS (buildM o).steps = 0
    · have := h1.2 h2; rw [this] at hne; simp at hne
    · omega
  have hs := pb.ac
  refine ⟨by rw [e1, hn], ⟨by omega, by omega, by omega, by omega, by omega, pb.st, ff.1, by omega⟩, ⟨ff.1, ?_, fun s hs => (pb.st s hs).form⟩, hne, hac⟩
  intro x hx
  simp only [Bld.hd, List.mem_cons, List.not_mem_nil, or_false] at hx
  rcases hx with rfl | rfl | rfl | rfl <;> omega
theorem best_ex (n : Nat) : ∃ b : Bld, ∀ r, Best PU n r → buildM r.1 = b := by
  by_cases h : ∃ r, Best PU n r
  · obtain ⟨r0, h0⟩ := h
    exact ⟨buildM r0.1, fun r hr => by rw [hr.unique h0]⟩
  · exact ⟨⟨0, 0, 0, 0, [], 0, 0⟩, fun r hr => absurd ⟨r, hr⟩ h⟩
noncomputable def bOf (n : Nat) : Bld := Classical.choose (best_ex n)
theorem bOf_spec {n : Nat} {r : Ord × Int} (h : Best PU n r) : buildM r.1 = bOf n := Classical.choose_spec (best_ex n) r h
theorem plan_fwd {o : Ord} (h : o.len ≠ 0) (hf : (buildM o).full = false) {zs : List Cx} (hz : zs.length = o.len.toNat) : fwdG (buildM o) zs = (List.range o.len.toNat).map (trM o (gd zs)) := by
  have go := GO.of_len h
  have hl := len_bd o
  have hs := len_sl h
  obtain ⟨n, hn⟩ : ∃ n : Nat, o.len = n := ⟨o.len.toNat, by omega⟩
  have h0 := bd_nil o.len
  have hb : BdOk (bld0 o.len) := h0.region (by omega) (by show (0 : Int) + 2 * o.len ≤ 400000; omega)
  have hfr : (bld0 o.len).fr = ((2 * n : Nat) : Int) := by show (0 : Int) + 2 * o.len = _; omega
  have hx : InsOk ⟨((0 : Nat) : Int), ((1 : Nat) : Int), (n : Nat)⟩ (sl o) (bld0 o.len).fr := by
    rw [← hs, hfr, hn]
    exact ⟨Int.le_refl _, Int.le_refl _, by simp only; omega, by simp only; omega, by simp only; omega, by simp only; omega, .inl (by simp only; omega)⟩
  have e : buildM o = deepM o ⟨((0 : Nat) : Int), ((1 : Nat) : Int), (n : Nat)⟩ (bld0 o.len) := by rw [← hn]; rfl
  obtain ⟨_, hc, L, hL, hrun⟩ := deep_tr go 0 1 n (bld0 o.len) hb hx (by rw [← e]; exact hf)
  have hd : Hd3 (bld0 o.len) (buildM o) := deepM_hd go _ _
  have e1 : (buildM o).ln = n := hd.ln.trans hn
  have e2 : (buildM o).i0 = 0 := hd.i0
  have e3 : (buildM o).ou = n := hd.ou.trans hn
  rw [← e] at hL hc hrun
  have hL2 : (buildM o).steps = L := hL
  have hcl : 2 * n ≤ (buildM o).cl.toNat := by
    have : (bld0 o.len).cl = if (0 : Int) + 2 * o.len > 0 then 0 + 2 * o.len else 0 := rfl
    rw [this] at hc
    split at hc <;> omega
  rw [hn, Int.toNat_natCast] at hz
  have e4 : loadC (buildM o).cl.toNat 0 zs = zs ++ List.replicate ((buildM o).cl.toNat - n) z0 := by
    simp [loadC, hz]
  obtain ⟨g1, g2, -⟩ := hrun (loadC (buildM o).cl.toNat 0 zs) (by rw [e4, List.length_append, List.length_replicate, hz]; omega)
  have hlen : (loadC (buildM o).cl.toNat 0 zs).length = (buildM o).cl.toNat := by rw [e4, List.length_append, List.length_replicate, hz]; omega
  rw [hlen] at g1
  unfold fwdG
  rw [hL2, e1, e2, e3, hn, Int.toNat_natCast, show (0 : Int).toNat = 0 from rfl]
  rw [← hs, hn, Int.toNat_natCast] at g2
  apply List.ext_getElem
  · simp [g1]; omega
  · intro i hi hi2
    simp only [List.length_map, List.length_range] at hi2
    have h3 := g2 i hi2
    simp only [List.getElem_take, List.getElem_drop, List.getElem_map, List.getElem_range]
    have h4 : gd (runG L (loadC (buildM o).cl.toNat 0 zs)) (n + i) = (runG L (loadC (buildM o).cl.toNat 0 zs))[n + i]'(by rw [g1]; omega) := by
      simp [gd, List.getD, List.getElem?_eq_getElem (show n + i < (runG L (loadC (buildM o).cl.toNat 0 zs)).length by rw [g1]; omega)]
    rw [← h4, h3]
    have hloc := trM_loc go
    rw [← hs, hn, Int.toNat_natCast] at hloc
    refine hloc _ _ (fun j hj => ?_) i
    rw [Nat.zero_add, Nat.mul_one, e4]
    simp only [gd, List.getD]
    rw [List.getElem?_append_left (by omega)]
theorem ord_ex (n : Nat) : ∃ o : Ord, ∀ r, Best PU n r → r.1 = o := by
  by_cases h : ∃ r, Best PU n r
  · obtain ⟨r0, h0⟩ := h
    exact ⟨r0.1, fun r hr => by rw [hr.unique h0]⟩
  · exact ⟨.mk 0 0 [], fun r hr => absurd ⟨r, hr⟩ h⟩
noncomputable def oOf (n : Nat) : Ord := Classical.choose (ord_ex n)
theorem oOf_spec {n : Nat} {r : Ord × Int} (h : Best PU n r) : r.1 = oOf n := Classical.choose_spec (ord_ex n) r h
structure UsG (n : Nat) : Prop where
  ex : ∃ r, Best PU n r ∧ r.1.len = n
  b : BldG n (bOf n)
  fwd : ∀ zs : List Cx, zs.length = n → fwdG (bOf n) zs = (List.range n).map (trM (oOf n) (gd zs))
theorem usG_of {n : Nat} (h1 : 1 ≤ n) {r : Ord × Int} (hr : Best PU n r) (hp : r.1.len = n ∧ (buildM r.1).full = false) : UsG n := by
  have hl : r.1.len.toNat = n := by rw [hp.1, Int.toNat_natCast]
  refine ⟨⟨r, hr, hp.1⟩, by rw [← bOf_spec hr]; exact bldG_of (by omega) hp.2 hp.1, fun zs hz => ?_⟩
  rw [← bOf_spec hr, ← oOf_spec hr]
  have := plan_fwd (o := r.1) (by rw [hp.1]; omega) hp.2 (zs := zs) (by rw [hl]; exact hz)
  rw [hl] at this
  exact this
theorem plan_NewG (n : Nat) (h1 : 1 ≤ n) (h2 : n ≤ 4096) (w : World) (st : StT w) (tab : TabB w.heap.size w) (hG : 24 ≤ w.heap.size) :
    Calls Tryz.prog 13 #[.int .i64 n] w (Ret fun v w' => ∃ p P, v = .tuple #[.pointer (some ⟨p, 0, none⟩), .nilIface] ∧ PlnR w.heap.size w'.heap.size w' p P ∧ P.b = bOf n ∧ UsG n ∧ Ch No w w') := by
  have hp := hasP_all (n := n) (by omega) (by omega)
  refine (plan_New n (by omega) (by omega) hp w st tab hG).mono ?_
  rintro e w' ⟨v, rfl, p, rr, rfl, hr, h3, h4⟩
  exact ⟨_, rfl, p, _, rfl, h3, bOf_spec hr, usG_of h1 hr (hp rr hr), h4⟩
theorem p_ForwardN (lo hi p : Nat) (P : Pln) (SX : Nat → Prop) (X : Option Addr) (n xc : Nat) (ys : List CB) (w : World) (sx : SlR SX w X n 1 (ys.map cxV)) (hX : ∀ q, SX q → q < w.heap.size) (pl : PlnR lo hi w p P) (hh : hi ≤ w.heap.size) (hb : P.b = bOf n) (us : UsG n) (st : StT w) (hG : 24 ≤ w.heap.size) :
    Calls Tryz.prog 15 #[.pointer (some ⟨p, 0, none⟩), .slice X n xc] w (Ret fun v w' => ∃ r' A' c' zs, v = .tuple #[.slice A' n c', .nilIface] ∧ CR 33 w' r' A' n c' zs ∧ zs.map cx = fwdG (bOf n) (ys.map cx) ∧ w.heap.size < r' ∧ Ch No w w') := by
  have bg := us.b
  rw [← hb] at bg
  have := p_Forward lo hi p P SX X n xc ys w sx hX pl hh P.b.cl.toNat bg.ok bg.okb bg.ne (by rw [bg.ln]) st hG bg.ac
  rw [show P.b.ln.toNat = n by rw [bg.ln, Int.toNat_natCast], hb] at this
  exact this
theorem p_InverseN (lo hi p : Nat) (P : Pln) (SX : Nat → Prop) (X : Option Addr) (n xc : Nat) (ys : List CB) (w : World) (sx : SlR SX w X n 1 (ys.map cxV)) (hX : ∀ q, SX q → q < w.heap.size) (pl : PlnR lo hi w p P) (hh : hi ≤ w.heap.size) (hb : P.b = bOf n) (us : UsG n) (st : StT w) (hG : 24 ≤ w.heap.size) :
    Calls Tryz.prog 16 #[.pointer (some ⟨p, 0, none⟩), .slice X n xc] w (Ret fun v w' => ∃ r' A' c' zs, v = .tuple #[.slice A' n c', .nilIface] ∧ CR 33 w' r' A' n c' zs ∧ zs.map cx = invG (bOf n) (ys.map cx) ∧ w.heap.size < r' ∧ Ch No w w') := by
  have bg := us.b
  rw [← hb] at bg
  have := p_Inverse lo hi p P SX X n xc ys w sx hX pl hh P.b.cl.toNat bg.ok bg.okb bg.ne (by rw [bg.ln]) st hG bg.ac
  rw [show P.b.ln.toNat = n by rw [bg.ln, Int.toNat_natCast], hb] at this
  exact this
end Go.Tm
namespace Go.Tm
set_option maxRecDepth 100000
open Go.RowKit Go.Proofs
theorem idx_lt {R C i j : Nat} (hi : i < R) (hj : j < C) : i * C + j < R * C := by
  have h : (i + 1) * C ≤ R * C := Nat.mul_le_mul_right _ hi
  rw [Nat.succ_mul] at h; omega
theorem idx_inj {R i i' j j' : Nat} (hi : i < R) (hi' : i' < R) (h : j' * R + i' = j * R + i) : j' = j ∧ i' = i := by
  rcases Nat.lt_trichotomy j' j with c | c | c
  · have h1 : (j' + 1) * R ≤ j * R := Nat.mul_le_mul_right _ c
    rw [Nat.succ_mul] at h1; omega
  · subst c; omega
  · have h1 : (j + 1) * R ≤ j' * R := Nat.mul_le_mul_right _ c
    rw [Nat.succ_mul] at h1; omega
theorem splice_getD {zs ys : List CB} {a C m : Nat} (hy : ys.length = C) (ha : a + C ≤ zs.length) : (zs.take a ++ ys ++ zs.drop (a + C)).getD m (0, 0) = if m < a then zs.getD m (0, 0) else if m < a + C then ys.getD (m - a) (0, 0) else zs.getD m (0, 0) := by
  have hta : (zs.take a).length = a := by rw [List.length_take]; omega
  simp only [List.getD]
  by_cases c : m < a
  · rw [if_pos c, List.append_assoc, List.getElem?_append_left (by omega), List.getElem?_take, if_pos c]
  · rw [if_neg c]
    by_cases d : m < a + C
    · rw [if_pos d, List.append_assoc, List.getElem?_append_right (by omega), hta, List.getElem?_append_left (by omega)]
    · rw [if_neg d, List.getElem?_append_right (by rw [List.length_append]; omega), List.getElem?_drop, List.length_append, hta, hy]
      congr 2; omega
structure GrX (R C : Nat) (G : Nat → Nat → Cx) (zs : List CB) : Prop where
  len : zs.length = R * C
  get : ∀ i j, i < R → j < C → cx (zs.getD (i * C + j) (0, 0)) = G i j
structure LX (n : Nat) (x : Nat → Cx) (zs : List CB) : Prop where
  len : zs.length = n
  get : ∀ j, j < n → cx (zs.getD j (0, 0)) = x j
theorem LX.map {n : Nat} {x : Nat → Cx} {zs : List CB} (h : LX n x zs) : zs.map cx = (List.range n).map x := by
  have hl := h.len
  apply List.ext_getElem
  · simp [hl]
  · intro i hi hi2
    simp only [List.length_map] at hi
    have := h.get i (by omega)
    simp only [List.getD, List.getElem?_eq_getElem hi, Option.getD_some] at this
    simpa using this
theorem LX.of {n : Nat} {x : Nat → Cx} {zs : List CB} {l : List Cx} (h : zs.map cx = l) (hl : zs.length = n) (hx : ∀ j, j < n → l.getD j z0 = x j) : LX n x zs :=
  ⟨hl, fun j hj => by rw [← map_getD, h]; exact hx j hj⟩
theorem GrX.row {R C : Nat} {G : Nat → Nat → Cx} {zs : List CB} (h : GrX R C G zs) {i : Nat} (hi : i < R) : LX C (G i) ((zs.drop (i * C)).take C) := by
  have hl := h.len
  have h1 : (i + 1) * C ≤ R * C := Nat.mul_le_mul_right _ hi
  rw [Nat.succ_mul] at h1
  refine ⟨by rw [List.length_take, List.length_drop]; omega, fun j hj => ?_⟩
  have := h.get i j hi hj
  simp only [List.getD, List.getElem?_take, if_pos hj, List.getElem?_drop] at this ⊢
  exact this
def mixX (F f : Nat → Nat → Cx) (i0 i j : Nat) : Cx := if i < i0 then F i j else f i j
theorem GrX.put {R C i : Nat} {F f : Nat → Nat → Cx} {zs ys : List CB} (h : GrX R C (mixX F f i) zs) (hi : i < R) (hy : LX C (F i) ys) : GrX R C (mixX F f (i + 1)) (zs.take (i * C) ++ ys ++ zs.drop (i * C + C)) := by
  have hl := h.len; have hyl := hy.len
  have h1 : (i + 1) * C ≤ R * C := Nat.mul_le_mul_right _ hi
  rw [Nat.succ_mul] at h1
  refine ⟨by rw [List.length_append, List.length_append, List.length_take, List.length_drop]; omega, fun i' j hi' hj => ?_⟩
  rw [splice_getD hyl (by omega)]
  have h0 := h.get i' j hi' hj
  rcases Nat.lt_trichotomy i' i with c | c | c
  · have h2 : (i' + 1) * C ≤ i * C := Nat.mul_le_mul_right _ c
    rw [Nat.succ_mul] at h2
    rw [if_pos (by omega)]
    simp only [mixX, if_pos c] at h0
    simp only [mixX, if_pos (show i' < i + 1 by omega)]
    exact h0
  · subst c
    rw [if_neg (by omega), if_pos (by omega), show i' * C + j - i' * C = j by omega]
    simp only [mixX, if_pos (Nat.lt_succ_self i')]
    exact hy.get j hj
  · have h2 : (i + 1) * C ≤ i' * C := Nat.mul_le_mul_right _ c
    rw [Nat.succ_mul] at h2
    rw [if_neg (by omega), if_neg (by omega)]
    simp only [mixX, if_neg (show ¬ i' < i by omega)] at h0
    simp only [mixX, if_neg (show ¬ i' < i + 1 by omega)]
    exact h0
theorem GrX.cast {R C : Nat} {f f' : Nat → Nat → Cx} {zs : List CB} (h : GrX R C f zs) (e : ∀ i j, i < R → j < C → f i j = f' i j) : GrX R C f' zs :=
  ⟨h.len, fun i j hi hj => by rw [h.get i j hi hj, e i j hi hj]⟩
theorem GrX.mix0 {R C : Nat} {F f : Nat → Nat → Cx} {zs : List CB} (h : GrX R C f zs) : GrX R C (mixX F f 0) zs := h.cast fun i j _ _ => by simp [mixX]
theorem GrX.mixAll {R C : Nat} {F f : Nat → Nat → Cx} {zs : List CB} (h : GrX R C (mixX F f R) zs) : GrX R C F zs := h.cast fun i j hi _ => by simp [mixX, hi]
theorem GrX.rowM {R C i : Nat} {F f : Nat → Nat → Cx} {zs : List CB} (h : GrX R C (mixX F f i) zs) (hi : i < R) : LX C (f i) ((zs.drop (i * C)).take C) := by
  have := h.row hi
  exact ⟨this.len, fun j hj => by rw [this.get j hj]; simp [mixX]⟩
structure TurX (R C : Nat) (G : Nat → Nat → Cx) (i j : Nat) (zs : List CB) : Prop where
  len : zs.length = R * C
  get : ∀ i' j', i' < R → j' < C → (i' < i ∨ (i' = i ∧ j' < j)) → cx (zs.getD (j' * R + i') (0, 0)) = G i' j'
theorem TurX.zero (R C : Nat) (G : Nat → Nat → Cx) {n : Nat} (hn : n = R * C) : TurX R C G 0 0 (List.replicate n (0, 0)) := ⟨by simp [hn], fun i' j' _ _ h => by omega⟩
theorem TurX.step {R C i j : Nat} {G : Nat → Nat → Cx} {zs : List CB} {z : CB} (h : TurX R C G i j zs) (hi : i < R) (hj : j < C) (hz : cx z = G i j) : TurX R C G i (j + 1) (zs.set (j * R + i) z) := by
  have hl := h.len
  have hx := idx_lt hj hi
  rw [Nat.mul_comm C R] at hx
  refine ⟨by rw [List.length_set]; exact hl, fun i' j' hi' hj' hh => ?_⟩
  by_cases c : j * R + i = j' * R + i'
  · obtain ⟨rfl, rfl⟩ := idx_inj hi' hi c
    simp only [List.getD, List.getElem?_set]
    simpa [show j * R + i < zs.length by omega] using hz
  · have h0 : i' < i ∨ (i' = i ∧ j' < j) := by
      rcases hh with hh | ⟨rfl, hh⟩
      · exact .inl hh
      · refine .inr ⟨rfl, ?_⟩
        rcases Nat.lt_or_ge j' j with d | d
        · exact d
        · have : j' = j := by omega
          subst this; exact absurd rfl c
    have := h.get i' j' hi' hj' h0
    simp only [List.getD, List.getElem?_set] at this ⊢
    simpa [c] using this
theorem TurX.next {R C i : Nat} {G : Nat → Nat → Cx} {zs : List CB} (h : TurX R C G i C zs) : TurX R C G (i + 1) 0 zs :=
  ⟨h.len, fun i' j' hi' hj' hh => h.get i' j' hi' hj' (by omega)⟩
theorem TurX.all {R C : Nat} {G : Nat → Nat → Cx} {zs : List CB} (h : TurX R C G R 0 zs) : GrX C R (fun j i => G i j) zs :=
  ⟨by rw [Nat.mul_comm]; exact h.len, fun j i hj hi => h.get i j hi hj (.inl hi)⟩
def dm (R C k : Nat) : Nat := if k % 2 = 0 then R else C
theorem dm_succ (R C k : Nat) : dm R C (k + 1) = dm C R k := by unfold dm; split <;> split <;> first | rfl | omega
theorem dm_bd {R C : Nat} (hR : 1 ≤ R ∧ R ≤ 30) (hC : 1 ≤ C ∧ C ≤ 30) (k : Nat) : 1 ≤ dm R C k ∧ dm R C k ≤ 30 := by unfold dm; split <;> assumption
theorem dm_mul (R C k : Nat) : dm R C k * dm C R k = R * C := by unfold dm; split; rfl; exact Nat.mul_comm C R
noncomputable def grF (n : Nat) (x : Nat → Cx) (j : Nat) : Cx := (fwdG (bOf n) ((List.range n).map x)).getD j z0
noncomputable def grI (n : Nat) (x : Nat → Cx) (j : Nat) : Cx := (invG (bOf n) ((List.range n).map x)).getD j z0
def gk (t : Nat → (Nat → Cx) → Nat → Cx) (R C : Nat) (G : Nat → Nat → Cx) : Nat → Nat → Nat → Cx
  | 0 => G
  | k + 1 => fun j i => t (dm C R k) (gk t R C G k i) j
section
variable {P : Program} {n : Fr} {k : K} {w : World} {d : Option Tmp} {ty : TypeId} {pos : String} {aft : Array Edge} {g : Option (Nat × Bool)}
theorem Rn.slnilF {t t' e : TypeId} {x : Operand} {A : Option Addr} {l c : Nat} (ht : P.underlying t = some (.slice e)) (hx : ev k x = some (.slice A l c)) (hA : ∃ ad, A = some ad) :
    Rn P n k w { dst := d, op := .binOp .eql t x (.const (.slice none 0 0)) t', type := ty, pos := pos, after := aft, guard := g } (.bool false) := by
  obtain ⟨ad, rfl⟩ := hA
  have h : ∀ d : Nat, (Op.equalIn (d + 1) t (.slice (some ad) l c) (.slice none 0 0)).run P w = .ok false w := fun d => by simp [Op.equalIn, run_underlying ht]
  have h2 : (binOp .eql t (.slice (some ad) l c) (.slice none 0 0)).run P w = .ok (.bool false) w := by
    simp only [binOp]
    simp [Op.equal, Op.maxDepth, h 9999]
  exact Rt hx rfl (fun x y => by rw [eqGuard_at_slice]; simp [h2])
theorem Wk.copyM {S : Nat → Prop} {t u e : TypeId} {by' r l c m mc dl off : Nat} {A B : Option Addr} {xs ys : List CB} {x y : Operand} (ht : P.underlying t = some (.slice e)) (hi : Inf P e (.complex .f64 0 0) 1 by')
    (hx : ev k x = some (.slice (if c = off then A else A.map (·.add (off * 1))) dl (c - off))) (hy : ev k y = some (.slice B m mc)) (hown : CR e w r A l c xs) (hsrc : SlR S w B m 1 (ys.map cxV)) (hm : 0 < m) (hmd : m ≤ dl) (hoff : off + dl ≤ l) (hl : l ≤ c) :
    Wk P n k w { dst := d, op := .call { callee := .builtin .copy, args := #[x, y], argTypes := #[t, u] }, type := ty, pos := pos, after := aft, guard := g } (fun v w' => v = .int .i64 m ∧ CR e w' r A l c (xs.take off ++ ys ++ xs.drop (off + m)) ∧ Ch (At r) w w' ∧ w'.heap.size = w.heap.size) := by
  have hxl := CR.len hown
  have hyl : ys.length = m := by have := hsrc.len; simpa using this
  obtain ⟨inf, h1, h2, h3, h4⟩ := hi
  have hsz : (P.info? e).map (·.size) = some 1 := by rw [h1]; simp [h3]
  obtain ⟨g', cur, rfl, rfl, hg, hlc, hcm, hcs, htk⟩ := Ow.open' hown (by omega)
  obtain ⟨ad, rfl⟩ := hsrc.ne hm
  rw [if_neg (by omega)] at hx
  have hx' : ev k x = some (.slice (some ⟨g', off, none⟩) dl (c - off)) := by rw [hx]; simp [Addr.add_lit]
  have hmin : (ys.map cxV).length = Nat.min m dl := by rw [List.length_map, hyl]; exact (Nat.min_eq_left hmd).symm
  have hr := run_copy_row (P := P) w t u ty e g' off dl (c - off) ad m mc cur e (ys.map cxV) ht hsz hg hmin (fun j v hj => hsrc.cells ad rfl j v hj) (by simp; omega) (fun v hv => by obtain ⟨z, _, rfl⟩ := List.mem_map.1 hv; rfl)
  have hs := Sts.of_row (w' := w.setRow g' (cur.toList.take off ++ ys.map cxV ++ cur.toList.drop (off + (ys.map cxV).length)).toArray) rfl hg
  refine Rm fun a ha => ⟨goInt (ys.map cxV).length, _, ?_, by simp [goInt, hyl], ⟨by simp; omega, .inr ⟨g', _, rfl, rfl, hs.same, hlc, hcm, ?_, ?_⟩⟩, hs.ch.more (fun q _ hq => by rw [hq]), hs.size⟩
  · simp [execOp, resolve, invoke, builtin, ha.eval hx', ha.eval hy, hr]
  · simp; omega
  · rw [Nat.mul_one] at htk ⊢
    have hc : cur.toList.length = c := by simp [hcs]
    have e1 : cur.toList.take off = (xs.map cxV).take off := by rw [← htk, List.take_take, Nat.min_eq_left (by omega)]
    have e2 : (cur.toList.drop (off + m)).take (l - (off + m)) = (xs.map cxV).drop (off + m) := by rw [← htk, List.drop_take]
    have hA : (cur.toList.take off).length = off := by simp [hcs]; omega
    have hB : (ys.map cxV).length = m := by rw [List.length_map, hyl]
    rw [hB, List.take_append, List.take_of_length_le (by rw [List.length_append, hA, hB]; omega), List.length_append, hA, hB, e2, e1]
    simp only [List.map_append, List.map_take, List.map_drop]
end
theorem CR.subRow {e : TypeId} {w : World} {r l c a n : Nat} {A : Option Addr} {ws : List CB} (h : CR e w r A l c ws) (hc : l ≤ c) (h2 : a + n ≤ l) : SlR (At r) w (if c = a then A else A.map (·.add (a * 1))) n 1 (((ws.drop a).take n).map cxV) := by
  have := SlR.sub (Ow.sl h) (i := a) (j := a + n) (by omega) h2 hc
  rw [show a + n - a = n by omega, ← List.map_drop, ← List.map_take] at this
  exact this
structure ErrL (E : Addr) (w : World) : Prop where
  get : w.cell? ⟨0, 0, none⟩ = some (.iface 321 (.pointer (some E)))
theorem ErrL.lt {E : Addr} {w : World} (h : ErrL E w) : 0 < w.heap.size := World.block_lt_of_cell? w _ h.get
theorem ErrL.keep {E : Addr} {w w' : World} (h : ErrL E w) (c : Ch No w w') : ErrL E w' := ⟨c.cell (fun h => h) h.get⟩
theorem Rn.errT {n : Fr} {k : K} {w : World} {d : Option Nat} {ty : TypeId} {pos : String} {aft : Array Edge} {gd : Option (Nat × Bool)} {t' : TypeId} {x y : Operand} {E : Addr} (hx : ev k x = some (.iface 321 (.pointer (some E)))) (hy : ev k y = some (.iface 321 (.pointer (some E)))) :
    Rn Tryz.prog n k w { dst := d, op := .binOp .eql 28 x y t', type := ty, pos := pos, after := aft, guard := gd } (.bool true) := by
  refine Rt hx hy (fun x y => ?_)
  have := run_eql_iface_ptr_same (P := Tryz.prog) w (ti := 28) (tp := 321) E υ28 Tryz.underlying321 Tryz.type321 (by kernel_rfl) Tryz.type338
  simp [eqGuard_at_iface, this]
theorem inf33w94 : Inf Tryz.prog 33 (.complex .f64 0 0) 1 16 := ⟨Tryz.t33, Tryz.type33, rfl, rfl, rfl⟩
theorem grid_Check (R C NN : Nat) (A : Option Addr) (cap : Nat) (w : World) (hR : 1 ≤ R ∧ R ≤ 30) (hC : 1 ≤ C ∧ C ≤ 30) (hN : NN = R * C) :
  Calls Tryz.prog 56 #[.agg #[.int .i64 R, .int .i64 C, .slice A NN cap]] w (Ret (fun v w' => v = .nilIface ∧ Ch No w w')) := by
 have hNb : NN ≤ 900 := by rw [hN]; exact Nat.mul_le_mul hR.2 hC.2
 have hN0 : 0 < NN := by rw [hN]; exact Nat.mul_pos hR.1 hC.1
 have hNm : (R : Int) * (C : Int) = (NN : Int) := by rw [hN, Int.natCast_mul]
 refine calls_of_VC (args := [.agg #[.int .i64 R, .int .i64 C, .slice A NN cap]]) Tryz.func56 rfl Tryz.ntmps56 rfl (Qe (Qb (Oq (Cj rfl) rfl ?_)))
 rintro _ w1 ⟨p1, rfl, N1⟩
 have c1 := N1.ch
 have e1 := N1.p; have z1 := N1.size
 have b1 := Bk.new N1
 refine Om (Qd rfl) rfl (Qf (Qa (Qe (Qe (Qb (Om (Qg υ46 rfl ς3 rfl rfl rfl) rfl (Om (Qh ι3 rfl (b1.cell rfl)) rfl ?_)))))))
 refine Om (Rn.lssF rfl rfl (by omega)) rfl (Om (Qc rfl) rfl (Om (Qg υ46 rfl ς3 rfl rfl rfl) rfl (Om (Qh ι3 rfl (b1.cell rfl)) rfl (Om (Rn.gtrF rfl rfl (by omega)) rfl (Om (Qm rfl rfl) rfl (Om (Qc rfl) rfl (Om (Qg υ46 rfl ς3 rfl rfl rfl) rfl ?_)))))))
 refine Om (Qh ι3 rfl (b1.cell rfl)) rfl (Om (Rn.lssF rfl rfl (by omega)) rfl (Om (Qm rfl rfl) rfl (Om (Qc rfl) rfl (Om (Qg υ46 rfl ς3 rfl rfl rfl) rfl (Om (Qh ι3 rfl (b1.cell rfl)) rfl (Om (Rn.gtrF rfl rfl (by omega)) rfl (Om (Qm rfl rfl) rfl ?_)))))))
 refine Om (Qc rfl) rfl (Om (Qg υ46 rfl ς31 rfl rfl rfl) rfl (Om (Qh ι31 rfl (b1.cell rfl)) rfl (Om (Ra υ31 rfl) rfl (Om (Qg υ46 rfl ς3 rfl rfl rfl) rfl (Om (Qh ι3 rfl (b1.cell rfl)) rfl (Om (Qg υ46 rfl ς3 rfl rfl rfl) rfl (Om (Qh ι3 rfl (b1.cell rfl)) rfl ?_)))))))
 refine Om (Cv rfl rfl (by rw [IntKind.wrap_i64]; omega)) rfl ?_
 refine Om (Rn.neqF rfl rfl (by omega)) rfl (Om (Qm rfl rfl) rfl (Qf (Qa (Ca rfl (Qn (Qa (Qe ?_)))))))
 refine Qb (Om (Qd rfl) rfl (Qf (Qa (Qp (Qy rfl rfl (Ret.mk ?_))))))
 have CH_1 := (Ch.refl (No) w).and c1
 exact ⟨rfl, CH_1⟩
theorem grid_row (R C NN i : Nat) (A : Option Addr) (cap : Nat) (w : World) (hR : 1 ≤ R ∧ R ≤ 30) (hC : 1 ≤ C ∧ C ≤ 30) (hN : NN = R * C) (hi : i < R) (hc : NN ≤ cap) :
  Calls Tryz.prog 139 #[.agg #[.int .i64 R, .int .i64 C, .slice A NN cap], .int .i64 i] w (Ret (fun v w' => v = .slice (if cap = i * C then A else A.map (·.add (i * C * 1))) C (cap - i * C) ∧ Ch No w w')) := by
 have hNb : NN ≤ 900 := by rw [hN]; exact Nat.mul_le_mul hR.2 hC.2
 have hN0 : 0 < NN := by rw [hN]; exact Nat.mul_pos hR.1 hC.1
 have hNm : (R : Int) * (C : Int) = (NN : Int) := by rw [hN, Int.natCast_mul]
 obtain ⟨iC, hiC⟩ : ∃ m, m = i * C := ⟨_, rfl⟩
 have e1 : (i : Int) * (C : Int) = (iC : Int) := by rw [hiC, Int.natCast_mul]
 have e2 : ((i : Int) + 1) * (C : Int) = (iC : Int) + (C : Int) := by rw [Int.add_mul, Int.one_mul, e1]
 have h1 : iC + C ≤ NN := by have := Nat.mul_le_mul_right C hi; rw [Nat.succ_mul] at this; omega
 refine calls_of_VC (args := [.agg #[.int .i64 R, .int .i64 C, .slice A NN cap], .int .i64 i]) Tryz.func139 rfl Tryz.ntmps139 rfl (Qe (Qb (Oq (Cj rfl) rfl ?_)))
 rintro _ w1 ⟨p1, rfl, N1⟩
 have c1 := N1.ch
 have e1 := N1.p; have z1 := N1.size
 have b2 := Bk.new N1
 refine Om (Qd rfl) rfl (Qf (Qa (Qe (Qb (Om (Qg υ46 rfl ς31 rfl rfl rfl) rfl (Om (Qh ι31 rfl (b2.cell rfl)) rfl (Om (Qc rfl) rfl ?_)))))))
 refine Om (Qg υ46 rfl ς3 rfl rfl rfl) rfl (Om (Qh ι3 rfl (b2.cell rfl)) rfl ?_)
 refine Om (Cv rfl rfl (by rw [IntKind.wrap_i64]; omega)) rfl ?_
 refine Om (Qc rfl) rfl ?_
 refine Om (Ce rfl rfl (by rw [IntKind.wrap_i64]; omega)) rfl ?_
 refine Om (Qg υ46 rfl ς3 rfl rfl rfl) rfl (Om (Qh ι3 rfl (b2.cell rfl)) rfl ?_)
 refine Om (Cv rfl rfl (by rw [IntKind.wrap_i64]; omega)) rfl ?_
 refine Om (Rn.sliceLH υ31 ς33 rfl rfl rfl (by omega) (by omega) (by omega)) rfl (Om (Qd rfl) rfl (Qf (Qa (Qp (Qy rfl rfl (Ret.mk ?_))))))
 have t1 : ((i : Int) * (C : Int)).toNat = i * C := by omega
 have t2 : (((i : Int) + 1) * (C : Int)).toNat - i * C = C := by omega
 have CH_1 := (Ch.refl (No) w).and c1
 exact ⟨by rw [t1, t2], CH_1⟩
theorem grid_do0 (p3 p8 pp lo hi : Nat) (PP : Pln) (n : Nat) (SX : Nat → Prop) (X : Option Addr) (xc : Nat) (zs : List CB) (x : Nat → Cx) (w : World) (b3 : Bk w p3 #[.func (.func 15) #[] #[]] 93) (b8 : Bk w p8 #[.pointer (some ⟨pp, 0, none⟩)] 26) (pl : PlnR lo hi w pp PP) (hh : hi ≤ w.heap.size) (hpb : PP.b = bOf n) (us : UsG n) (hn : 1 ≤ n ∧ n ≤ 4096) (sx : SlR SX w X n 1 (zs.map cxV)) (hX : ∀ q, SX q → q < w.heap.size) (hz : LX n x zs) (st : StT w) (hG : 24 ≤ w.heap.size) :
  Calls Tryz.prog 102 #[.slice X n xc, .pointer (some ⟨p3, 0, none⟩), .pointer (some ⟨p8, 0, none⟩)] w (Ret (fun v w' => ∃ r A k os, v = .tuple #[.slice A n k, .nilIface] ∧ CR 33 w' r A n k os ∧ LX n (grF n x) os ∧ w.heap.size < r ∧ Ch No w w')) := by
 refine calls_of_VC (args := [.slice X n xc, .pointer (some ⟨p3, 0, none⟩), .pointer (some ⟨p8, 0, none⟩)]) Tryz.func102 rfl Tryz.ntmps102 rfl (Qe (Qb (Om (Qd rfl) rfl (Om (Qd rfl) rfl (Qf (Qa (Qe ?_)))))))
 refine Qb (Om (Qh Tryz.isAgg93 rfl (b3.cell rfl)) rfl (Om (Qh Tryz.isAgg26 rfl (b8.cell rfl)) rfl (Om (Qc rfl) rfl ?_)))
 refine Oq (Wd Tryz.call15 rfl rfl (by rfl) (p_ForwardN _ _ _ _ _ _ n _ zs _ sx (fun q hq => by have := hX q hq; omega) pl (by omega) hpb us st (by omega))) rfl ?_
 rintro _ w1 ⟨r1, A1, k1, os1, rfl, tr1, ht1, yo1, c1⟩
 have hlo1 := Ow.lt tr1
 have z1 := c1.size
 refine Om (Qq rfl rfl) rfl (Om (Qq rfl rfl) rfl (Om (Qd rfl) rfl (Om (Qd rfl) rfl (Qf (Qa (Qp (Cz rfl rfl rfl ?_)))))))
 refine Ret.mk ?_
 have CH_1 := (Ch.refl (No) w).and c1
 exact ⟨_, _, _, _, rfl, tr1, LX.of (ht1.trans (congrArg (fwdG (bOf n)) hz.map)) (CR.len tr1) (fun j _ => rfl), by omega, CH_1⟩
set_option maxHeartbeats 2000000 in
theorem grid_rows0 (p3 p8 pp lo hi : Nat) (PP : Pln) (R C NN r : Nat) (A : Option Addr) (cap : Nat) (zs : List CB) (f : Nat → Nat → Cx) (w : World) (b3 : Bk w p3 #[.func (.func 15) #[] #[]] 93) (b8 : Bk w p8 #[.pointer (some ⟨pp, 0, none⟩)] 26) (pl : PlnR lo hi w pp PP) (hh : hi ≤ w.heap.size) (hpb : PP.b = bOf C) (us : UsG C) (row : CR 33 w r A NN cap zs) (n3 : ¬ r = p3 + 1) (n8 : ¬ r = p8 + 1) (hrl : r ≤ lo) (hrg : 24 < r) (hR : 1 ≤ R ∧ R ≤ 30) (hC : 1 ≤ C ∧ C ≤ 30) (hN : NN = R * C) (hz : GrX R C f zs) (st : StT w) (hG : 24 ≤ w.heap.size) :
  Calls Tryz.prog 101 #[.agg #[.int .i64 R, .int .i64 C, .slice A NN cap], .func (.func 102) #[] #[.pointer (some ⟨p3, 0, none⟩), .pointer (some ⟨p8, 0, none⟩)]] w (Ret (fun v w' => ∃ ws, v = .nilIface ∧ CR 33 w' r A NN cap ws ∧ GrX R C (fun i => grF C (f i)) ws ∧ Ch (At r) w w')) := by
 have hNb : NN ≤ 900 := by rw [hN]; exact Nat.mul_le_mul hR.2 hC.2
 have hN0 : 0 < NN := by rw [hN]; exact Nat.mul_pos hR.1 hC.1
 have hNm : (R : Int) * (C : Int) = (NN : Int) := by rw [hN, Int.natCast_mul]
 have hcp := Ow.cap row hN0
 have lrow := Ow.lt row
 have lb3 := b3.lt; have lb8 := b8.lt
 refine calls_of_VC (args := [.agg #[.int .i64 R, .int .i64 C, .slice A NN cap], .func (.func 102) #[] #[.pointer (some ⟨p3, 0, none⟩), .pointer (some ⟨p8, 0, none⟩)]]) Tryz.func101 rfl Tryz.ntmps101 rfl (Qe (Qb (Oq (Cj rfl) rfl ?_)))
 rintro _ w1 ⟨p1, rfl, N1⟩
 have c1 := N1.ch
 have e1 := N1.p; have z1 := N1.size
 have b2 := Bk.new N1
 refine Om (Qd rfl) rfl (Qf (Qa (Qe (Qe (Qb (Om (Qg υ46 rfl ς3 rfl rfl rfl) rfl (Om (Qh ι3 rfl (b2.cell rfl)) rfl ?_)))))))
 refine Om (Qc rfl) rfl (Qf (Qa (Qw ?_)))
 have row_1 := row.keep c1
 have b3_1 := b3.keep c1
 have b8_1 := b8.keep c1
 have pl_1 := pl.keep c1
 have st_1 := st.keep c1
 have CH_1 := (Ch.refl (At r) w).and c1
 refine Cp (σ := Nat × List CB) (fun (i, ws) => [(1, .func (.func 102) #[] #[.pointer (some ⟨p3, 0, none⟩), .pointer (some ⟨p8, 0, none⟩)]), (2, .pointer (some ⟨p1, 0, none⟩)), (9, .int .i64 R), (10, .int .i64 i)]) (fun (i, ws) w' => i ≤ R ∧ GrX R C (mixX (fun i => grF C (f i)) f i) ws ∧ w1.heap.size ≤ w'.heap.size ∧ CR 33 w' r A NN cap ws ∧ Bk w' p1 #[.int .i64 R, .int .i64 C, .slice A NN cap] 46 ∧ Bk w' p3 #[.func (.func 15) #[] #[]] 93 ∧ Bk w' p8 #[.pointer (some ⟨pp, 0, none⟩)] 26 ∧ PlnR lo hi w' pp PP ∧ StT w' ∧ Ch (At r) w w') (fun (i, ws) => R - i) (0, zs) ?_ ⟨rfl, rfl, rfl, rfl, trivial⟩ ?_
 · exact ⟨(by omega), hz.mix0, (Nat.le_refl _), row_1, b2, b3_1, b8_1, pl_1, st_1, CH_1⟩
 rintro ⟨i, ws⟩ w2 ⟨hile, hg, hsz2, row_2, b2_2, b3_2, b8_2, pl_2, st_2, CH_2⟩
 show VC _ _ _ _ [(1, .func (.func 102) #[] #[.pointer (some ⟨p3, 0, none⟩), .pointer (some ⟨p8, 0, none⟩)]), (2, .pointer (some ⟨p1, 0, none⟩)), (9, .int .i64 R), (10, .int .i64 i)] _
 refine Qe (Qb (Om (Cs rfl rfl) rfl (Qf (Qa (Qe (Qj rfl (fun hc1 => ?_) (fun hc1 => ?_)))))))
 ·
  refine Qn (Qa (Qe (Qw (Qe ?_))))
  have hi9 : i < R := by omega
  have hiC : i * C + C ≤ NN := by have := Nat.mul_le_mul_right C hi9; rw [Nat.succ_mul] at this; omega
  refine Qb (Om (Qc rfl) rfl (Om (Qd rfl) rfl (Qf (Qa (Qe (Qb (Om (Qc rfl) rfl ?_)))))))
  refine Om (Qr ι46 ς46 rfl rfl (b2_2.all' rfl)) rfl (Om (Qc rfl) rfl (Oq (Qi Tryz.call139 rfl (grid_row _ _ _ i _ _ _ hR hC hN hi9 hcp)) rfl ?_))
  rintro _ w3 ⟨rfl, c3⟩
  have z3 := c3.size
  have b3_3 := b3_2.keep c3
  have b8_3 := b8_2.keep c3
  have pl_3 := pl_2.keep c3
  have row_3 := row_2.keep c3
  have st_3 := st_2.keep c3
  refine Oq (Wd Tryz.call102 rfl rfl (by rfl) (grid_do0 p3 p8 pp lo hi PP C _ _ _ _ (f i) _ b3_3 b8_3 pl_3 (by omega) hpb us ⟨by omega, by omega⟩ (CR.subRow row_3 hcp hiC) (fun q hq => by omega) (hg.rowM hi9) st_3 (by omega))) rfl ?_
  rintro _ w4 ⟨r4, A4, k4, os4, rfl, tr4, ht4, yo4, c4⟩
  have hlo4 := Ow.lt tr4
  have z4 := c4.size
  obtain ⟨osC, hosC⟩ : ∃ z, z = os4 := ⟨_, rfl⟩
  have htC := ht4; rw [← hosC] at htC tr4
  refine Om (Qc rfl) rfl (Om (Qq rfl rfl) rfl (Om (Qq rfl rfl) rfl (Om (Qd rfl) rfl (Om (Qd rfl) rfl (Qf (Qa (Qe ?_)))))))
  refine Qe (Qb (Om (Qc rfl) rfl (Om (Cg υ28 rfl) rfl (Qf (Qa (Ca rfl (Qn ?_)))))))
  refine Qa (Qb ?_)
  have b2_4 := b2_2.keep (c3.trans c4)
  refine Om (Qr ι46 ς46 rfl rfl (b2_4.all' rfl)) rfl (Om (Qc rfl) rfl (Oq (Qi Tryz.call139 rfl (grid_row _ _ _ i _ _ _ hR hC hN hi9 hcp)) rfl ?_))
  rintro _ w5 ⟨rfl, c5⟩
  have z5 := c5.size
  refine Om (Qc rfl) rfl ?_
  have row_5 := row_3.keep (c4.trans c5)
  have trC_5 := tr4.keep c5
  refine Oq (Wk.copyM υ31 inf33w94 rfl rfl row_5 (trC_5).sl (by omega) (by omega) hiC hcp) rfl ?_
  rintro _ w6 ⟨rfl, row6, c6, z6⟩
  have yr6 := Ow.lt row6
  have z6 := c6.size
  refine Qf (Qo (Qa (Qb ?_)))
  refine Om (Ce rfl rfl (by rw [IntKind.wrap_i64]; omega)) rfl ?_
  refine Om (Qc rfl) rfl (Qf ?_)
  refine Ck (i + 1, ws.take (i * C) ++ osC ++ ws.drop (i * C + C)) (by first | omega | (dsimp only; omega)) ?_ ⟨rfl, rfl, rfl, rfl, trivial⟩
  have b2_5 := b2_4.keep c5
  have b2_6 := b2_5.to c6
  have b3_5 := b3_3.keep (c4.trans c5)
  have b3_6 := b3_5.to c6
  have b8_5 := b8_3.keep (c4.trans c5)
  have b8_6 := b8_5.to c6
  have pl_5 := pl_3.keep (c4.trans c5)
  have pl_6 := pl_5.to c6
  have st_5 := st_3.keep (c4.trans c5)
  have st_6 := st_5.to c6
  have CH_5 := CH_2.and (c3.trans (c4.trans c5))
  have CH_6 : Ch (At r) w w6 := CH_5.then c6
  exact ⟨(by omega), (hg.put hi9 htC), (by omega), row6, b2_6, b3_6, b8_6, pl_6, st_6, CH_6⟩
 ·
  refine Cr (Qk (Qk (Qz (Qa (Qe (Qb (Om (Qd rfl) rfl ?_)))))))
  refine Qf (Qa (Qp (Qy rfl rfl (Ret.mk ?_))))
  have ei : i = R := by omega
  rw [ei] at hg
  exact ⟨ws, rfl, row_2, hg.mixAll, CH_2⟩
theorem grid_do1 (p3 p8 pp lo hi : Nat) (PP : Pln) (n : Nat) (SX : Nat → Prop) (X : Option Addr) (xc : Nat) (zs : List CB) (x : Nat → Cx) (w : World) (b3 : Bk w p3 #[.func (.func 16) #[] #[]] 93) (b8 : Bk w p8 #[.pointer (some ⟨pp, 0, none⟩)] 26) (pl : PlnR lo hi w pp PP) (hh : hi ≤ w.heap.size) (hpb : PP.b = bOf n) (us : UsG n) (hn : 1 ≤ n ∧ n ≤ 4096) (sx : SlR SX w X n 1 (zs.map cxV)) (hX : ∀ q, SX q → q < w.heap.size) (hz : LX n x zs) (st : StT w) (hG : 24 ≤ w.heap.size) :
  Calls Tryz.prog 102 #[.slice X n xc, .pointer (some ⟨p3, 0, none⟩), .pointer (some ⟨p8, 0, none⟩)] w (Ret (fun v w' => ∃ r A k os, v = .tuple #[.slice A n k, .nilIface] ∧ CR 33 w' r A n k os ∧ LX n (grI n x) os ∧ w.heap.size < r ∧ Ch No w w')) := by
 refine calls_of_VC (args := [.slice X n xc, .pointer (some ⟨p3, 0, none⟩), .pointer (some ⟨p8, 0, none⟩)]) Tryz.func102 rfl Tryz.ntmps102 rfl (Qe (Qb (Om (Qd rfl) rfl (Om (Qd rfl) rfl (Qf (Qa (Qe ?_)))))))
 refine Qb (Om (Qh Tryz.isAgg93 rfl (b3.cell rfl)) rfl (Om (Qh Tryz.isAgg26 rfl (b8.cell rfl)) rfl (Om (Qc rfl) rfl ?_)))
 refine Oq (Wd Tryz.call16 rfl rfl (by rfl) (p_InverseN _ _ _ _ _ _ n _ zs _ sx (fun q hq => by have := hX q hq; omega) pl (by omega) hpb us st (by omega))) rfl ?_
 rintro _ w1 ⟨r1, A1, k1, os1, rfl, tr1, ht1, yo1, c1⟩
 have hlo1 := Ow.lt tr1
 have z1 := c1.size
 refine Om (Qq rfl rfl) rfl (Om (Qq rfl rfl) rfl (Om (Qd rfl) rfl (Om (Qd rfl) rfl (Qf (Qa (Qp (Cz rfl rfl rfl ?_)))))))
 refine Ret.mk ?_
 have CH_1 := (Ch.refl (No) w).and c1
 exact ⟨_, _, _, _, rfl, tr1, LX.of (ht1.trans (congrArg (invG (bOf n)) hz.map)) (CR.len tr1) (fun j _ => rfl), by omega, CH_1⟩
set_option maxHeartbeats 2000000 in
theorem grid_rows1 (p3 p8 pp lo hi : Nat) (PP : Pln) (R C NN r : Nat) (A : Option Addr) (cap : Nat) (zs : List CB) (f : Nat → Nat → Cx) (w : World) (b3 : Bk w p3 #[.func (.func 16) #[] #[]] 93) (b8 : Bk w p8 #[.pointer (some ⟨pp, 0, none⟩)] 26) (pl : PlnR lo hi w pp PP) (hh : hi ≤ w.heap.size) (hpb : PP.b = bOf C) (us : UsG C) (row : CR 33 w r A NN cap zs) (n3 : ¬ r = p3 + 1) (n8 : ¬ r = p8 + 1) (hrl : r ≤ lo) (hrg : 24 < r) (hR : 1 ≤ R ∧ R ≤ 30) (hC : 1 ≤ C ∧ C ≤ 30) (hN : NN = R * C) (hz : GrX R C f zs) (st : StT w) (hG : 24 ≤ w.heap.size) :
  Calls Tryz.prog 101 #[.agg #[.int .i64 R, .int .i64 C, .slice A NN cap], .func (.func 102) #[] #[.pointer (some ⟨p3, 0, none⟩), .pointer (some ⟨p8, 0, none⟩)]] w (Ret (fun v w' => ∃ ws, v = .nilIface ∧ CR 33 w' r A NN cap ws ∧ GrX R C (fun i => grI C (f i)) ws ∧ Ch (At r) w w')) := by
 have hNb : NN ≤ 900 := by rw [hN]; exact Nat.mul_le_mul hR.2 hC.2
 have hN0 : 0 < NN := by rw [hN]; exact Nat.mul_pos hR.1 hC.1
 have hNm : (R : Int) * (C : Int) = (NN : Int) := by rw [hN, Int.natCast_mul]
 have hcp := Ow.cap row hN0
 have lrow := Ow.lt row
 have lb3 := b3.lt; have lb8 := b8.lt
 refine calls_of_VC (args := [.agg #[.int .i64 R, .int .i64 C, .slice A NN cap], .func (.func 102) #[] #[.pointer (some ⟨p3, 0, none⟩), .pointer (some ⟨p8, 0, none⟩)]]) Tryz.func101 rfl Tryz.ntmps101 rfl (Qe (Qb (Oq (Cj rfl) rfl ?_)))
 rintro _ w1 ⟨p1, rfl, N1⟩
 have c1 := N1.ch
 have e1 := N1.p; have z1 := N1.size
 have b2 := Bk.new N1
 refine Om (Qd rfl) rfl (Qf (Qa (Qe (Qe (Qb (Om (Qg υ46 rfl ς3 rfl rfl rfl) rfl (Om (Qh ι3 rfl (b2.cell rfl)) rfl ?_)))))))
 refine Om (Qc rfl) rfl (Qf (Qa (Qw ?_)))
 have row_1 := row.keep c1
 have b3_1 := b3.keep c1
 have b8_1 := b8.keep c1
 have pl_1 := pl.keep c1
 have st_1 := st.keep c1
 have CH_1 := (Ch.refl (At r) w).and c1
 refine Cp (σ := Nat × List CB) (fun (i, ws) => [(1, .func (.func 102) #[] #[.pointer (some ⟨p3, 0, none⟩), .pointer (some ⟨p8, 0, none⟩)]), (2, .pointer (some ⟨p1, 0, none⟩)), (9, .int .i64 R), (10, .int .i64 i)]) (fun (i, ws) w' => i ≤ R ∧ GrX R C (mixX (fun i => grI C (f i)) f i) ws ∧ w1.heap.size ≤ w'.heap.size ∧ CR 33 w' r A NN cap ws ∧ Bk w' p1 #[.int .i64 R, .int .i64 C, .slice A NN cap] 46 ∧ Bk w' p3 #[.func (.func 16) #[] #[]] 93 ∧ Bk w' p8 #[.pointer (some ⟨pp, 0, none⟩)] 26 ∧ PlnR lo hi w' pp PP ∧ StT w' ∧ Ch (At r) w w') (fun (i, ws) => R - i) (0, zs) ?_ ⟨rfl, rfl, rfl, rfl, trivial⟩ ?_
 · exact ⟨(by omega), hz.mix0, (Nat.le_refl _), row_1, b2, b3_1, b8_1, pl_1, st_1, CH_1⟩
 rintro ⟨i, ws⟩ w2 ⟨hile, hg, hsz2, row_2, b2_2, b3_2, b8_2, pl_2, st_2, CH_2⟩
 show VC _ _ _ _ [(1, .func (.func 102) #[] #[.pointer (some ⟨p3, 0, none⟩), .pointer (some ⟨p8, 0, none⟩)]), (2, .pointer (some ⟨p1, 0, none⟩)), (9, .int .i64 R), (10, .int .i64 i)] _
 refine Qe (Qb (Om (Cs rfl rfl) rfl (Qf (Qa (Qe (Qj rfl (fun hc1 => ?_) (fun hc1 => ?_)))))))
 ·
  refine Qn (Qa (Qe (Qw (Qe ?_))))
  have hi9 : i < R := by omega
  have hiC : i * C + C ≤ NN := by have := Nat.mul_le_mul_right C hi9; rw [Nat.succ_mul] at this; omega
  refine Qb (Om (Qc rfl) rfl (Om (Qd rfl) rfl (Qf (Qa (Qe (Qb (Om (Qc rfl) rfl ?_)))))))
  refine Om (Qr ι46 ς46 rfl rfl (b2_2.all' rfl)) rfl (Om (Qc rfl) rfl (Oq (Qi Tryz.call139 rfl (grid_row _ _ _ i _ _ _ hR hC hN hi9 hcp)) rfl ?_))
  rintro _ w3 ⟨rfl, c3⟩
  have z3 := c3.size
  have b3_3 := b3_2.keep c3
  have b8_3 := b8_2.keep c3
  have pl_3 := pl_2.keep c3
  have row_3 := row_2.keep c3
  have st_3 := st_2.keep c3
  refine Oq (Wd Tryz.call102 rfl rfl (by rfl) (grid_do1 p3 p8 pp lo hi PP C _ _ _ _ (f i) _ b3_3 b8_3 pl_3 (by omega) hpb us ⟨by omega, by omega⟩ (CR.subRow row_3 hcp hiC) (fun q hq => by omega) (hg.rowM hi9) st_3 (by omega))) rfl ?_
  rintro _ w4 ⟨r4, A4, k4, os4, rfl, tr4, ht4, yo4, c4⟩
  have hlo4 := Ow.lt tr4
  have z4 := c4.size
  obtain ⟨osC, hosC⟩ : ∃ z, z = os4 := ⟨_, rfl⟩
  have htC := ht4; rw [← hosC] at htC tr4
  refine Om (Qc rfl) rfl (Om (Qq rfl rfl) rfl (Om (Qq rfl rfl) rfl (Om (Qd rfl) rfl (Om (Qd rfl) rfl (Qf (Qa (Qe ?_)))))))
  refine Qe (Qb (Om (Qc rfl) rfl (Om (Cg υ28 rfl) rfl (Qf (Qa (Ca rfl (Qn ?_)))))))
  refine Qa (Qb ?_)
  have b2_4 := b2_2.keep (c3.trans c4)
  refine Om (Qr ι46 ς46 rfl rfl (b2_4.all' rfl)) rfl (Om (Qc rfl) rfl (Oq (Qi Tryz.call139 rfl (grid_row _ _ _ i _ _ _ hR hC hN hi9 hcp)) rfl ?_))
  rintro _ w5 ⟨rfl, c5⟩
  have z5 := c5.size
  refine Om (Qc rfl) rfl ?_
  have row_5 := row_3.keep (c4.trans c5)
  have trC_5 := tr4.keep c5
  refine Oq (Wk.copyM υ31 inf33w94 rfl rfl row_5 (trC_5).sl (by omega) (by omega) hiC hcp) rfl ?_
  rintro _ w6 ⟨rfl, row6, c6, z6⟩
  have yr6 := Ow.lt row6
  have z6 := c6.size
  refine Qf (Qo (Qa (Qb ?_)))
  refine Om (Ce rfl rfl (by rw [IntKind.wrap_i64]; omega)) rfl ?_
  refine Om (Qc rfl) rfl (Qf ?_)
  refine Ck (i + 1, ws.take (i * C) ++ osC ++ ws.drop (i * C + C)) (by first | omega | (dsimp only; omega)) ?_ ⟨rfl, rfl, rfl, rfl, trivial⟩
  have b2_5 := b2_4.keep c5
  have b2_6 := b2_5.to c6
  have b3_5 := b3_3.keep (c4.trans c5)
  have b3_6 := b3_5.to c6
  have b8_5 := b8_3.keep (c4.trans c5)
  have b8_6 := b8_5.to c6
  have pl_5 := pl_3.keep (c4.trans c5)
  have pl_6 := pl_5.to c6
  have st_5 := st_3.keep (c4.trans c5)
  have st_6 := st_5.to c6
  have CH_5 := CH_2.and (c3.trans (c4.trans c5))
  have CH_6 : Ch (At r) w w6 := CH_5.then c6
  exact ⟨(by omega), (hg.put hi9 htC), (by omega), row6, b2_6, b3_6, b8_6, pl_6, st_6, CH_6⟩
 ·
  refine Cr (Qk (Qk (Qz (Qa (Qe (Qb (Om (Qd rfl) rfl ?_)))))))
  refine Qf (Qa (Qp (Qy rfl rfl (Ret.mk ?_))))
  have ei : i = R := by omega
  rw [ei] at hg
  exact ⟨ws, rfl, row_2, hg.mixAll, CH_2⟩
end Go.Tm
namespace Go.Tm
set_option maxRecDepth 100000
open Go.RowKit Go.Proofs
theorem inf33w95 : Inf Tryz.prog 33 (.complex .f64 0 0) 1 16 := ⟨Tryz.t33, Tryz.type33, rfl, rfl, rfl⟩
theorem bld46_0_1_2w95 {v0 v1 v2 : Value} (h : [v0, v1, v2].all Value.oneCell' = true) (w : World) : (Instr.build 46 ([(0, v0), (1, v1), (2, v2)] : List (Nat × Value)).toArray).run Tryz.prog w = .ok (.agg #[v0, v1, v2]) w := by
  simp only [List.all_cons, Bool.and_eq_true, List.all_nil, and_true] at h
  have hv0 := oneCell_cells (v := v0) (by simp_all)
  have hv1 := oneCell_cells (v := v1) (by simp_all)
  have hv2 := oneCell_cells (v := v2) (by simp_all)
  have h1 := fill_set (fun i => ([(0, 1), (1, 1), (2, 1)] : List (Nat × Nat))[i]?) [(0, v0), (1, v1), (2, v2)] [.int .i64 0, .int .i64 0, .slice none 0 0] (by simp [okF, agg_cells, hv0, hv1, hv2, Nat.beq, Nat.ble])
  simp [setF, agg_cells, hv0, hv1, hv2] at h1
  simp [Instr.build, Tryz.runUnderlying46, ζ46, ς3, ς31, agg_cells, h1]
set_option maxHeartbeats 2000000 in
theorem grid_turned (SX : Nat → Prop) (R C NN : Nat) (A : Option Addr) (cap : Nat) (zs : List CB) (f : Nat → Nat → Cx) (w : World) (sx : SlR SX w A NN 1 (zs.map cxV)) (hX : ∀ q, SX q → q < w.heap.size) (hR : 1 ≤ R ∧ R ≤ 30) (hC : 1 ≤ C ∧ C ≤ 30) (hN : NN = R * C) (hz : GrX R C f zs)  :
  Calls Tryz.prog 97 #[.agg #[.int .i64 R, .int .i64 C, .slice A NN cap]] w (Ret (fun v w' => ∃ q os, v = .agg #[.int .i64 C, .int .i64 R, .slice (some ⟨q, 0, none⟩) NN NN] ∧ CR 33 w' (q + 1) (some ⟨q, 0, none⟩) NN NN os ∧ GrX C R (fun j i => f i j) os ∧ w.heap.size ≤ q ∧ Ch No w w')) := by
 have hNb : NN ≤ 900 := by rw [hN]; exact Nat.mul_le_mul hR.2 hC.2
 have hN0 : 0 < NN := by rw [hN]; exact Nat.mul_pos hR.1 hC.1
 have hNm : (R : Int) * (C : Int) = (NN : Int) := by rw [hN, Int.natCast_mul]
 refine calls_of_VC (args := [.agg #[.int .i64 R, .int .i64 C, .slice A NN cap]]) Tryz.func97 rfl Tryz.ntmps97 rfl (Qe (Qb (Oq (Cj rfl) rfl ?_)))
 rintro _ w1 ⟨p1, rfl, N1⟩
 have c1 := N1.ch
 have e1 := N1.p; have z1 := N1.size
 have b1 := Bk.new N1
 refine Oq (Cc ζ46) rfl ?_
 rintro _ w2 ⟨p2, rfl, N2⟩
 have c2 := N2.ch
 have e2 := N2.p; have z2 := N2.size
 have b2 := Bk.new N2
 refine Qf (Qa (Qe (Rz 10 (.mv 0 (.mv 1 (.mv 2 (.mv 3 (.mv 4 (.mv 5 (.mv 6 (.two 7 (.mv 8 (.wk 9 .nil)) 9 (.wk 7 (.mv 8 .nil)))))))))) (fun w1 w' => Ch (No) w1 w') mixed (by kernel_rfl) (fun _ _ => Ch.refl _ _) ?_)))
 intro w3 D3
 have c3 := Ch.of_drew D3; have z3 := c3.size
 have sx_3 := sx.keep (c1.trans (c2.trans c3))
 have b1_3 := b1.keep (c2.trans c3)
 have b2_3 := b2.keep c3
 refine Ct (fun w' hS => Qg υ46 rfl ς3 rfl rfl rfl) rfl rfl rfl rfl (Ct (fun w' hS => Qh ι3 rfl ((b1_3.keep hS).cell rfl)) rfl rfl rfl rfl (Ct (fun w' hS => Qg υ46 rfl ς3 rfl rfl rfl) rfl rfl rfl rfl (Ct (fun w' hS => Qh ι3 rfl ((b1_3.keep hS).cell rfl)) rfl rfl rfl rfl (Ct (fun w' hS => Qg υ46 rfl ς31 rfl rfl rfl) rfl rfl rfl rfl (Ct (fun w' hS => Qh ι31 rfl ((b1_3.keep hS).cell rfl)) rfl rfl rfl rfl (Ct (fun w' hS => Ra υ31 rfl) rfl rfl rfl rfl (Wg ?_ ?_)))))))
 ·
  refine Rg (Wk.mkC υ31 inf33w95 rfl rfl (by omega) (by omega) (by omega)) rfl rfl rfl rfl ?_
  rintro _ w4 ⟨p4, rfl, o4, c4, e4, z4⟩
  have RD_4 := (Ch.refl (No) w3).and c4
  refine ⟨RD_4, ?_⟩
  refine Ct (fun w' hS => Cl rfl (bld46_0_1_2w95 rfl)) rfl rfl rfl rfl (Rg (Cc ζ46) rfl rfl rfl rfl ?_)
  rintro _ w5 ⟨p5, rfl, N5⟩
  have c5 := N5.ch
  have e5 := N5.p; have z5 := N5.size
  have b3 := Bk.new N5
  have RD_5 := RD_4.and c5
  refine ⟨RD_5, ?_⟩
  refine Rj (Oz (Cf ς46 rfl rfl rfl rfl b3 (Nat.le_of_ble_eq_true rfl)) rfl ?_)
  intro _ w6 Z6
  have c6 := Z6.ch; have z6 := Z6.size
  have b3_6 := Bk.put Z6
  refine Qf (Qx (Qa (Qe (Qe (Qb (Om (Qg υ46 rfl ς3 rfl rfl rfl) rfl ?_))))))
  have cc_3_6 : Ch No w3 w6 := (Ch.then (E := No) (c4.and c5) c6 (by intro q h1 h2; rcases h2 with h2 | h2 <;> first | exact h2 | (exfalso; omega)))
  have b1_6 := b1_3.keep cc_3_6
  refine Om (Qh ι3 rfl (b1_6.cell rfl)) rfl (Om (Qc rfl) rfl (Qf (Qa (Qw ?_))))
  have sx_6 := sx_3.keep cc_3_6
  have b2_6 := b2_3.keep cc_3_6
  have cc_4_6 : Ch No w4 w6 := (Ch.then (E := No) c5 c6 (by intro q h1 h2; rcases h2 with h2 | h2 <;> first | exact h2 | (exfalso; omega)))
  have ou_6 := o4.keep cc_4_6
  have cc_0_6 : Ch No w w6 := (Ch.then (E := No) ((((c1.and c2).and c3).and c4).and c5) c6 (by intro q h1 h2; rcases h2 with h2 | h2 <;> first | exact h2 | (exfalso; omega)))
  have CH_6 := (Ch.refl (No) w).and cc_0_6
  refine Cp (σ := Nat × List CB) (fun (i, os) => [(1, .pointer (some ⟨p1, 0, none⟩)), (2, .pointer (some ⟨p2, 0, none⟩)), (3, .pointer (some ⟨p5, 0, none⟩)), (16, .int .i64 R), (17, .int .i64 i)]) (fun (i, os) w' => i ≤ R ∧ TurX R C f i 0 os ∧ w6.heap.size ≤ w'.heap.size ∧ SlR SX w' A NN 1 (zs.map cxV) ∧ Bk w' p1 #[.int .i64 R, .int .i64 C, .slice A NN cap] 46 ∧ Bk w' p2 #[.int .i64 0, .int .i64 0, .slice none 0 0] 46 ∧ Bk w' p5 #[.int .i64 C, .int .i64 R, .slice (some ⟨p4, 0, none⟩) NN NN] 46 ∧ CR 33 w' (p4 + 1) (some ⟨p4, 0, none⟩) NN NN os ∧ Ch (No) w w') (fun (i, os) => R - i) (0, List.replicate NN (0, 0)) ?_ ⟨rfl, rfl, rfl, rfl, rfl, trivial⟩ ?_
  · exact ⟨(by omega), (TurX.zero _ _ _ hN), (Nat.le_refl _), sx_6, b1_6, b2_6, b3_6, ou_6, CH_6⟩
  rintro ⟨i, os⟩ w7 ⟨hile, ht, hsz7, sx_7, b1_7, b2_7, b3_7, ou_7, CH_7⟩
  show VC _ _ _ _ [(1, .pointer (some ⟨p1, 0, none⟩)), (2, .pointer (some ⟨p2, 0, none⟩)), (3, .pointer (some ⟨p5, 0, none⟩)), (16, .int .i64 R), (17, .int .i64 i)] _
  refine Qe (Qb (Om (Cs rfl rfl) rfl (Qf (Qa (Qe (Qj rfl (fun hc1 => ?_) (fun hc1 => ?_)))))))
  ·
   refine Qn (Qa (Qe (Qw (Qe (Qb (Om (Qc rfl) rfl (Om (Qd rfl) rfl ?_)))))))
   refine Qf (Qa (Qe (Qb (Om (Qg υ46 rfl ς3 rfl rfl rfl) rfl (Om (Qh ι3 rfl (b1_7.cell rfl)) rfl (Om (Qc rfl) rfl (Qf ?_)))))))
   refine Qa (Qw (Cp (σ := Nat × List CB) (fun (j, os2) => [(1, .pointer (some ⟨p1, 0, none⟩)), (2, .pointer (some ⟨p2, 0, none⟩)), (3, .pointer (some ⟨p5, 0, none⟩)), (4, .int .i64 i), (16, .int .i64 R), (17, .int .i64 i), (21, .int .i64 C), (22, .int .i64 j)]) (fun (j, os2) w' => j ≤ C ∧ TurX R C f i j os2 ∧ w7.heap.size ≤ w'.heap.size ∧ SlR SX w' A NN 1 (zs.map cxV) ∧ Bk w' p1 #[.int .i64 R, .int .i64 C, .slice A NN cap] 46 ∧ Bk w' p2 #[.int .i64 0, .int .i64 0, .slice none 0 0] 46 ∧ Bk w' p5 #[.int .i64 C, .int .i64 R, .slice (some ⟨p4, 0, none⟩) NN NN] 46 ∧ CR 33 w' (p4 + 1) (some ⟨p4, 0, none⟩) NN NN os2 ∧ Ch (No) w w') (fun (j, os2) => C - j) (0, os) ?_ ⟨rfl, rfl, rfl, rfl, rfl, rfl, rfl, rfl, trivial⟩ ?_))
   · exact ⟨(by omega), ht, (Nat.le_refl _), sx_7, b1_7, b2_7, b3_7, ou_7, CH_7⟩
   rintro ⟨j, os2⟩ w8 ⟨hjle, ht2, hsz8, sx_8, b1_8, b2_8, b3_8, ou_8, CH_8⟩
   show VC _ _ _ _ [(1, .pointer (some ⟨p1, 0, none⟩)), (2, .pointer (some ⟨p2, 0, none⟩)), (3, .pointer (some ⟨p5, 0, none⟩)), (4, .int .i64 i), (16, .int .i64 R), (17, .int .i64 i), (21, .int .i64 C), (22, .int .i64 j)] _
   refine Qe (Qb (Om (Cs rfl rfl) rfl (Qf (Qa (Qe (Qj rfl (fun hc2 => ?_) (fun hc2 => ?_)))))))
   ·
    refine Qn (Qa (Qe (Qw (Qe (Qb (Om (Qc rfl) rfl (Om (Qd rfl) rfl ?_)))))))
    refine Qf (Qa ?_)
    have hi9 : i < R := by omega
    have hj9 : j < C := by omega
    obtain ⟨jR, hjR⟩ : ∃ m, m = j * R := ⟨_, rfl⟩
    have e1 : (j : Int) * (R : Int) = (jR : Int) := by rw [hjR, Int.natCast_mul]
    have l1 : jR + i < NN := by have := idx_lt hj9 hi9; rw [Nat.mul_comm C R] at this; omega
    obtain ⟨iC, hiC⟩ : ∃ m, m = i * C := ⟨_, rfl⟩
    have e2 : (i : Int) * (C : Int) = (iC : Int) := by rw [hiC, Int.natCast_mul]
    have l2 : iC + j < NN := by have := idx_lt hi9 hj9; omega
    have t1 : ((j : Int) * (R : Int) + (i : Int)).toNat = j * R + i := by omega
    have t2 : ((i : Int) * (C : Int) + (j : Int)).toNat = i * C + j := by omega
    refine Ci 19 [(0, true), (1, true), (2, true), (3, true), (4, true), (5, true), (6, true), (7, true), (8, true), (9, true), (10, true), (11, true), (12, true), (13, true), (14, true), (15, true), (16, true), (17, true), (18, true)] (fun w1 w' => Ch (No) w1 w') mixed (by kernel_rfl) (fun _ _ => Ch.refl _ _) ?_
    intro w9 D9
    have c9 := Ch.of_drew D9; have z9 := c9.size
    have sx_9 := sx_8.keep c9
    have b1_9 := b1_8.keep c9
    have b2_9 := b2_8.keep c9
    have ou_9 := ou_8.keep c9
    have b3_9 := b3_8.keep c9
    refine Hm (fun w' hS => Qg υ46 rfl ς31 rfl rfl rfl) rfl (Hm (fun w' hS => Qh ι31 rfl ((b3_9.keep hS).cell rfl)) rfl (Hm (fun w' hS => Qc rfl) rfl (Hm (fun w' hS => Qg υ46 rfl ς3 rfl rfl rfl) rfl (Hm (fun w' hS => Qh ι3 rfl ((b1_9.keep hS).cell rfl)) rfl ?_))))
    refine Hm (fun w' hS => Cv rfl rfl (by rw [IntKind.wrap_i64]; omega)) rfl ?_
    refine Hm (fun w' hS => Qc rfl) rfl ?_
    refine Hm (fun w' hS => Ce rfl rfl (by rw [IntKind.wrap_i64]; omega)) rfl ?_
    refine Hm (fun w' hS => Qg υ46 rfl ς31 rfl rfl rfl) rfl (Hm (fun w' hS => Qh ι31 rfl ((b1_9.keep hS).cell rfl)) rfl (Hm (fun w' hS => Qc rfl) rfl (Hm (fun w' hS => Qg υ46 rfl ς3 rfl rfl rfl) rfl (Hm (fun w' hS => Qh ι3 rfl ((b1_9.keep hS).cell rfl)) rfl ?_))))
    refine Hm (fun w' hS => Cv rfl rfl (by rw [IntKind.wrap_i64]; omega)) rfl ?_
    refine Hm (fun w' hS => Qc rfl) rfl ?_
    refine Hm (fun w' hS => Ce rfl rfl (by rw [IntKind.wrap_i64]; omega)) rfl ?_
    refine Hm (fun w' hS => Cb υ31 ς33 rfl rfl ((sx_9.keep hS).ne (by omega)) (by omega) (by omega)) rfl (Hm (fun w' hS => Qh ι33 rfl ((sx_9.keep hS).getC (by omega) (by omega))) rfl (Hm (fun w' hS => Cb υ31 ς33 rfl rfl (ou_9.sl.ne (by omega)) (by omega) (by omega)) rfl (Cn (Oz (Rl ς33 rfl rfl (by omega) ou_9) rfl ?_))))
    rintro _ w10 ⟨o10, c10, z10⟩
    have y10 := o10.lt
    refine Qf (Qx (Qo (Qa (Qb ?_))))
    refine Om (Ce rfl rfl (by rw [IntKind.wrap_i64]; omega)) rfl ?_
    refine Om (Qc rfl) rfl (Qf ?_)
    refine Ck (j + 1, os2.set (j * R + i) (zs.getD (i * C + j) (0, 0))) (by first | omega | (dsimp only; omega)) ?_ ⟨rfl, rfl, rfl, rfl, rfl, rfl, rfl, rfl, trivial⟩
    have sx_10 := sx_9.to c10 (by first | exact fun _ _ _ _ => id | (intro q h1 h2 hx h3; have := hX q h2; omega))
    have b1_10 := b1_9.to c10
    have b2_10 := b2_9.to c10
    have b3_10 := b3_9.to c10
    have CH_9 := CH_8.and c9
    have CH_10 : Ch (No) w w10 := CH_9.then c10
    exact ⟨(by omega), (ht2.step hi9 hj9 (hz.get i j hi9 hj9)), (by omega), sx_10, b1_10, b2_10, b3_10, (by have h9 := o10; rw [t1, t2] at h9; exact h9), CH_10⟩
   ·
    refine Cr (Qk (Qk (Qz (Qo (Qa (Qb ?_))))))
    refine Om (Ce rfl rfl (by rw [IntKind.wrap_i64]; omega)) rfl ?_
    refine Om (Qc rfl) rfl (Qf ?_)
    refine Ck (i + 1, os2) (by first | omega | (dsimp only; omega)) ?_ ⟨rfl, rfl, rfl, rfl, rfl, trivial⟩
    exact ⟨(by omega), (by have h9 := ht2; rw [show j = C by omega] at h9; exact h9.next), (by omega), sx_8, b1_8, b2_8, b3_8, ou_8, CH_8⟩
  ·
   refine Cr (Qk (Qk (Qz (Qa (Qe (Qb (Om (Qr ι46 ς46 rfl rfl (b3_7.all' rfl)) rfl ?_)))))))
   refine Oz (Cf ς46 rfl rfl rfl rfl b2_7 (Nat.le_of_ble_eq_true rfl)) rfl ?_
   intro _ w11 Z11
   have c11 := Z11.ch; have z11 := Z11.size
   have b2_11 := Bk.put Z11
   refine Qf (Qa (Qp (Rk rfl rfl ι46 ς46 rfl (b2_11.all' rfl) (Ret.mk ?_))))
   have ei : i = R := by omega
   rw [ei] at ht
   have ou_11 := ou_7.to c11
   have CH_11 : Ch (No) w w11 := CH_7.then c11
   exact ⟨_, os, rfl, ou_11, ht.all, by omega, CH_11⟩
 ·
  refine Rg (Cc ζ46) rfl rfl rfl rfl ?_
  rintro _ w12 ⟨p12, rfl, N12⟩
  have c12 := N12.ch
  have e12 := N12.p; have z12 := N12.size
  have b3 := Bk.new N12
  have RD_12 := (Ch.refl (No) w3).and c12
  refine ⟨RD_12, ?_⟩
  refine Rg (Wk.mkC υ31 inf33w95 rfl rfl (by omega) (by omega) (by omega)) rfl rfl rfl rfl ?_
  rintro _ w13 ⟨p13, rfl, o13, c13, e13, z13⟩
  have RD_13 := RD_12.and c13
  refine ⟨RD_13, ?_⟩
  refine Ct (fun w' hS => Cl rfl (bld46_0_1_2w95 rfl)) rfl rfl rfl rfl (Rj ?_)
  have b3_13 := b3.keep c13
  refine Oz (Cf ς46 rfl rfl rfl rfl b3_13 (Nat.le_of_ble_eq_true rfl)) rfl ?_
  intro _ w14 Z14
  have c14 := Z14.ch; have z14 := Z14.size
  have b3_14 := Bk.put Z14
  refine Qf (Qx (Qa (Qe (Qe (Qb (Om (Qg υ46 rfl ς3 rfl rfl rfl) rfl ?_))))))
  have cc_3_14 : Ch No w3 w14 := (Ch.then (E := No) (c12.and c13) c14 (by intro q h1 h2; rcases h2 with h2 | h2 <;> first | exact h2 | (exfalso; omega)))
  have b1_14 := b1_3.keep cc_3_14
  refine Om (Qh ι3 rfl (b1_14.cell rfl)) rfl (Om (Qc rfl) rfl (Qf (Qa (Qw ?_))))
  have sx_14 := sx_3.keep cc_3_14
  have b2_14 := b2_3.keep cc_3_14
  have ou_14 := o13.to c14
  have cc_0_14 : Ch No w w14 := (Ch.then (E := No) ((((c1.and c2).and c3).and c12).and c13) c14 (by intro q h1 h2; rcases h2 with h2 | h2 <;> first | exact h2 | (exfalso; omega)))
  have CH_14 := (Ch.refl (No) w).and cc_0_14
  refine Cp (σ := Nat × List CB) (fun (i, os) => [(1, .pointer (some ⟨p1, 0, none⟩)), (2, .pointer (some ⟨p2, 0, none⟩)), (3, .pointer (some ⟨p12, 0, none⟩)), (16, .int .i64 R), (17, .int .i64 i)]) (fun (i, os) w' => i ≤ R ∧ TurX R C f i 0 os ∧ w14.heap.size ≤ w'.heap.size ∧ SlR SX w' A NN 1 (zs.map cxV) ∧ Bk w' p1 #[.int .i64 R, .int .i64 C, .slice A NN cap] 46 ∧ Bk w' p2 #[.int .i64 0, .int .i64 0, .slice none 0 0] 46 ∧ Bk w' p12 #[.int .i64 C, .int .i64 R, .slice (some ⟨p13, 0, none⟩) NN NN] 46 ∧ CR 33 w' (p13 + 1) (some ⟨p13, 0, none⟩) NN NN os ∧ Ch (No) w w') (fun (i, os) => R - i) (0, List.replicate NN (0, 0)) ?_ ⟨rfl, rfl, rfl, rfl, rfl, trivial⟩ ?_
  · exact ⟨(by omega), (TurX.zero _ _ _ hN), (Nat.le_refl _), sx_14, b1_14, b2_14, b3_14, ou_14, CH_14⟩
  rintro ⟨i, os⟩ w15 ⟨hile, ht, hsz15, sx_15, b1_15, b2_15, b3_15, ou_15, CH_15⟩
  show VC _ _ _ _ [(1, .pointer (some ⟨p1, 0, none⟩)), (2, .pointer (some ⟨p2, 0, none⟩)), (3, .pointer (some ⟨p12, 0, none⟩)), (16, .int .i64 R), (17, .int .i64 i)] _
  refine Qe (Qb (Om (Cs rfl rfl) rfl (Qf (Qa (Qe (Qj rfl (fun hc3 => ?_) (fun hc3 => ?_)))))))
  ·
   refine Qn (Qa (Qe (Qw (Qe (Qb (Om (Qc rfl) rfl (Om (Qd rfl) rfl ?_)))))))
   refine Qf (Qa (Qe (Qb (Om (Qg υ46 rfl ς3 rfl rfl rfl) rfl (Om (Qh ι3 rfl (b1_15.cell rfl)) rfl (Om (Qc rfl) rfl (Qf ?_)))))))
   refine Qa (Qw (Cp (σ := Nat × List CB) (fun (j, os2) => [(1, .pointer (some ⟨p1, 0, none⟩)), (2, .pointer (some ⟨p2, 0, none⟩)), (3, .pointer (some ⟨p12, 0, none⟩)), (4, .int .i64 i), (16, .int .i64 R), (17, .int .i64 i), (21, .int .i64 C), (22, .int .i64 j)]) (fun (j, os2) w' => j ≤ C ∧ TurX R C f i j os2 ∧ w15.heap.size ≤ w'.heap.size ∧ SlR SX w' A NN 1 (zs.map cxV) ∧ Bk w' p1 #[.int .i64 R, .int .i64 C, .slice A NN cap] 46 ∧ Bk w' p2 #[.int .i64 0, .int .i64 0, .slice none 0 0] 46 ∧ Bk w' p12 #[.int .i64 C, .int .i64 R, .slice (some ⟨p13, 0, none⟩) NN NN] 46 ∧ CR 33 w' (p13 + 1) (some ⟨p13, 0, none⟩) NN NN os2 ∧ Ch (No) w w') (fun (j, os2) => C - j) (0, os) ?_ ⟨rfl, rfl, rfl, rfl, rfl, rfl, rfl, rfl, trivial⟩ ?_))
   · exact ⟨(by omega), ht, (Nat.le_refl _), sx_15, b1_15, b2_15, b3_15, ou_15, CH_15⟩
   rintro ⟨j, os2⟩ w16 ⟨hjle, ht2, hsz16, sx_16, b1_16, b2_16, b3_16, ou_16, CH_16⟩
   show VC _ _ _ _ [(1, .pointer (some ⟨p1, 0, none⟩)), (2, .pointer (some ⟨p2, 0, none⟩)), (3, .pointer (some ⟨p12, 0, none⟩)), (4, .int .i64 i), (16, .int .i64 R), (17, .int .i64 i), (21, .int .i64 C), (22, .int .i64 j)] _
   refine Qe (Qb (Om (Cs rfl rfl) rfl (Qf (Qa (Qe (Qj rfl (fun hc4 => ?_) (fun hc4 => ?_)))))))
   ·
    refine Qn (Qa (Qe (Qw (Qe (Qb (Om (Qc rfl) rfl (Om (Qd rfl) rfl ?_)))))))
    refine Qf (Qa ?_)
    have hi9 : i < R := by omega
    have hj9 : j < C := by omega
    obtain ⟨jR, hjR⟩ : ∃ m, m = j * R := ⟨_, rfl⟩
    have e1 : (j : Int) * (R : Int) = (jR : Int) := by rw [hjR, Int.natCast_mul]
    have l1 : jR + i < NN := by have := idx_lt hj9 hi9; rw [Nat.mul_comm C R] at this; omega
    obtain ⟨iC, hiC⟩ : ∃ m, m = i * C := ⟨_, rfl⟩
    have e2 : (i : Int) * (C : Int) = (iC : Int) := by rw [hiC, Int.natCast_mul]
    have l2 : iC + j < NN := by have := idx_lt hi9 hj9; omega
    have t1 : ((j : Int) * (R : Int) + (i : Int)).toNat = j * R + i := by omega
    have t2 : ((i : Int) * (C : Int) + (j : Int)).toNat = i * C + j := by omega
    refine Ci 19 [(0, true), (1, true), (2, true), (3, true), (4, true), (5, true), (6, true), (7, true), (8, true), (9, true), (10, true), (11, true), (12, true), (13, true), (14, true), (15, true), (16, true), (17, true), (18, true)] (fun w1 w' => Ch (No) w1 w') mixed (by kernel_rfl) (fun _ _ => Ch.refl _ _) ?_
    intro w17 D17
    have c17 := Ch.of_drew D17; have z17 := c17.size
    have sx_17 := sx_16.keep c17
    have b1_17 := b1_16.keep c17
    have b2_17 := b2_16.keep c17
    have b3_17 := b3_16.keep c17
    have ou_17 := ou_16.keep c17
    refine Hm (fun w' hS => Qg υ46 rfl ς31 rfl rfl rfl) rfl (Hm (fun w' hS => Qh ι31 rfl ((b3_17.keep hS).cell rfl)) rfl (Hm (fun w' hS => Qc rfl) rfl (Hm (fun w' hS => Qg υ46 rfl ς3 rfl rfl rfl) rfl (Hm (fun w' hS => Qh ι3 rfl ((b1_17.keep hS).cell rfl)) rfl ?_))))
    refine Hm (fun w' hS => Cv rfl rfl (by rw [IntKind.wrap_i64]; omega)) rfl ?_
    refine Hm (fun w' hS => Qc rfl) rfl ?_
    refine Hm (fun w' hS => Ce rfl rfl (by rw [IntKind.wrap_i64]; omega)) rfl ?_
    refine Hm (fun w' hS => Qg υ46 rfl ς31 rfl rfl rfl) rfl (Hm (fun w' hS => Qh ι31 rfl ((b1_17.keep hS).cell rfl)) rfl (Hm (fun w' hS => Qc rfl) rfl (Hm (fun w' hS => Qg υ46 rfl ς3 rfl rfl rfl) rfl (Hm (fun w' hS => Qh ι3 rfl ((b1_17.keep hS).cell rfl)) rfl ?_))))
    refine Hm (fun w' hS => Cv rfl rfl (by rw [IntKind.wrap_i64]; omega)) rfl ?_
    refine Hm (fun w' hS => Qc rfl) rfl ?_
    refine Hm (fun w' hS => Ce rfl rfl (by rw [IntKind.wrap_i64]; omega)) rfl ?_
    refine Hm (fun w' hS => Cb υ31 ς33 rfl rfl ((sx_17.keep hS).ne (by omega)) (by omega) (by omega)) rfl (Hm (fun w' hS => Qh ι33 rfl ((sx_17.keep hS).getC (by omega) (by omega))) rfl (Hm (fun w' hS => Cb υ31 ς33 rfl rfl (ou_17.sl.ne (by omega)) (by omega) (by omega)) rfl (Cn (Oz (Rl ς33 rfl rfl (by omega) ou_17) rfl ?_))))
    rintro _ w18 ⟨o18, c18, z18⟩
    have y18 := o18.lt
    refine Qf (Qx (Qo (Qa (Qb ?_))))
    refine Om (Ce rfl rfl (by rw [IntKind.wrap_i64]; omega)) rfl ?_
    refine Om (Qc rfl) rfl (Qf ?_)
    refine Ck (j + 1, os2.set (j * R + i) (zs.getD (i * C + j) (0, 0))) (by first | omega | (dsimp only; omega)) ?_ ⟨rfl, rfl, rfl, rfl, rfl, rfl, rfl, rfl, trivial⟩
    have sx_18 := sx_17.to c18 (by first | exact fun _ _ _ _ => id | (intro q h1 h2 hx h3; have := hX q h2; omega))
    have b1_18 := b1_17.to c18
    have b2_18 := b2_17.to c18
    have b3_18 := b3_17.to c18
    have CH_17 := CH_16.and c17
    have CH_18 : Ch (No) w w18 := CH_17.then c18
    exact ⟨(by omega), (ht2.step hi9 hj9 (hz.get i j hi9 hj9)), (by omega), sx_18, b1_18, b2_18, b3_18, (by have h9 := o18; rw [t1, t2] at h9; exact h9), CH_18⟩
   ·
    refine Cr (Qk (Qk (Qz (Qo (Qa (Qb ?_))))))
    refine Om (Ce rfl rfl (by rw [IntKind.wrap_i64]; omega)) rfl ?_
    refine Om (Qc rfl) rfl (Qf ?_)
    refine Ck (i + 1, os2) (by first | omega | (dsimp only; omega)) ?_ ⟨rfl, rfl, rfl, rfl, rfl, trivial⟩
    exact ⟨(by omega), (by have h9 := ht2; rw [show j = C by omega] at h9; exact h9.next), (by omega), sx_16, b1_16, b2_16, b3_16, ou_16, CH_16⟩
  ·
   refine Cr (Qk (Qk (Qz (Qa (Qe (Qb (Om (Qr ι46 ς46 rfl rfl (b3_15.all' rfl)) rfl ?_)))))))
   refine Oz (Cf ς46 rfl rfl rfl rfl b2_15 (Nat.le_of_ble_eq_true rfl)) rfl ?_
   intro _ w19 Z19
   have c19 := Z19.ch; have z19 := Z19.size
   have b2_19 := Bk.put Z19
   refine Qf (Qa (Qp (Rk rfl rfl ι46 ς46 rfl (b2_19.all' rfl) (Ret.mk ?_))))
   have ei : i = R := by omega
   rw [ei] at ht
   have ou_19 := ou_15.to c19
   have CH_19 : Ch (No) w w19 := CH_15.then c19
   exact ⟨_, os, rfl, ou_19, ht.all, by omega, CH_19⟩
theorem slices_CloneC (SX : Nat → Prop) (X : Option Addr) (n xc : Nat) (zs : List CB) (w : World) (sx : SlR SX w X n 1 (zs.map cxV)) (hX : ∀ q, SX q → q < w.heap.size) (hn : 1 ≤ n ∧ n ≤ 1000000) :
  Calls Tryz.prog 100 #[.slice X n xc] w (Ret (fun v w' => ∃ r A k, v = .slice A n k ∧ CR 33 w' r A n k zs ∧ w.heap.size < r ∧ Ch No w w')) := by
 refine calls_of_VC (args := [.slice X n xc]) Tryz.func100 rfl Tryz.ntmps100 rfl (Qe (Qb (Om (Qd rfl) rfl (Qf (Qa (Qe (Qe ?_)))))))
 refine Qb (Om (Qc rfl) rfl (Om (Rn.slnilF υ31 rfl ((sx).ne (by omega))) rfl (Qf (Qa (Ca rfl (Qn (Qa ?_)))))))
 refine Qe (Qb (Oq (Wk.lit0 υ31 inf33w95) rfl ?_))
 rintro _ w1 ⟨p1, rfl, N1⟩
 have c1 := N1.ch
 have e1 := N1.p; have z1 := N1.size
 have l5o := Ow.of_new (cs := []) (sz := 1) (l := 0) N1 rfl (by decide)
 refine Om (Qc rfl) rfl ?_
 have sx_1 := sx.keep c1
 refine Oq (Cq (S := _) υ31 inf33w95 rfl (by decide) rfl rfl l5o sx_1 (cx_one _) (fun h => absurd h (by omega)) (by omega) (by simp only [maxLen]; omega)) rfl ?_
 rintro _ w2 ⟨r2, A2, k2, rfl, o2, c2, q2⟩
 have z2 := c2.size
 have y2 := o2.lt
 refine Om (Qd rfl) rfl (Qf (Qa (Qp (Qy rfl rfl (Ret.mk ?_)))))
 have e9 : 0 + n = n := by omega
 have o9 := o2; rw [e9, List.nil_append] at o9
 have CH_1 := (Ch.refl (No) w).and c1
 have CH_2 : Ch (No) w w2 := CH_1.then c2
 exact ⟨_, _, _, congrArg (fun m => Value.slice A2 m k2) e9, o9, by omega, CH_2⟩
set_option maxHeartbeats 4000000 in
theorem grid_both0 (SX : Nat → Prop) (R C NN : Nat) (A : Option Addr) (cap : Nat) (zs : List CB) (G : Nat → Nat → Cx) (w : World) (sx : SlR SX w A NN 1 (zs.map cxV)) (hX : ∀ q, SX q → q < w.heap.size) (hR : 1 ≤ R ∧ R ≤ 30) (hC : 1 ≤ C ∧ C ≤ 30) (hN : NN = R * C) (hz : GrX R C G zs) (st : StT w) (tab : TabB w.heap.size w) (hG : 24 ≤ w.heap.size) :
  Calls Tryz.prog 59 #[.agg #[.int .i64 R, .int .i64 C, .slice A NN cap], .func (.func 15) #[] #[]] w (Ret (fun v w' => ∃ r1 A1 c1 ws, v = .tuple #[.agg #[.int .i64 R, .int .i64 C, .slice A1 NN c1], .nilIface] ∧ CR 33 w' r1 A1 NN c1 ws ∧ GrX R C (gk grF R C G 2) ws ∧ w.heap.size < r1 ∧ Ch No w w')) := by
 have hNb : NN ≤ 900 := by rw [hN]; exact Nat.mul_le_mul hR.2 hC.2
 have hN0 : 0 < NN := by rw [hN]; exact Nat.mul_pos hR.1 hC.1
 have hNm : (R : Int) * (C : Int) = (NN : Int) := by rw [hN, Int.natCast_mul]
 refine calls_of_VC (args := [.agg #[.int .i64 R, .int .i64 C, .slice A NN cap], .func (.func 15) #[] #[]]) Tryz.func59 rfl Tryz.ntmps59 rfl (Qe (Qb (Oq (Cj rfl) rfl ?_)))
 rintro _ w1 ⟨p1, rfl, N1⟩
 have c1 := N1.ch
 have e1 := N1.p; have z1 := N1.size
 have b2 := Bk.new N1
 refine Oq (Cj rfl) rfl ?_
 rintro _ w2 ⟨p2, rfl, N2⟩
 have c2 := N2.ch
 have e2 := N2.p; have z2 := N2.size
 have b3 := Bk.new N2
 refine Oq (Cc ζ46) rfl ?_
 rintro _ w3 ⟨p3, rfl, N3⟩
 have c3 := N3.ch
 have e3 := N3.p; have z3 := N3.size
 have b4 := Bk.new N3
 refine Om (Qd rfl) rfl (Qf (Qa (Qe (Qe (Qb ?_)))))
 have b2_3 := b2.keep (c2.trans c3)
 refine Om (Qr ι46 ς46 rfl rfl (b2_3.all' rfl)) rfl (Oq (Qi κ56 rfl (grid_Check _ _ _ _ _ _ hR hC hN)) rfl ?_)
 rintro _ w4 ⟨rfl, c4⟩
 have z4 := c4.size
 refine Om (Qd rfl) rfl (Qf (Qa (Qe (Qb (Om (Qc rfl) rfl (Om (Cg υ28 rfl) rfl (Qf ?_)))))))
 refine Qa (Ca rfl (Qn (Qa (VC.cut (σ := Nat × Nat × Option Addr × Nat × List CB) (fun (p7, r0, A0, c0, ws0) => [(3, .pointer (some ⟨p2, 0, none⟩)), (4, .pointer (some ⟨p3, 0, none⟩)), (7, .pointer (some ⟨p7, 0, none⟩))]) (fun (p7, r0, A0, c0, ws0) w' => ws0 = zs ∧ w4.heap.size ≤ p7 ∧ w4.heap.size < r0 ∧ ¬ r0 = p7 + 1 ∧ Bk w' p7 #[.int .i64 R, .int .i64 C, .slice A0 NN c0] 46 ∧ CR 33 w' r0 A0 NN c0 ws0 ∧ Bk w' p2 #[.func (.func 15) #[] #[]] 93 ∧ Bk w' p3 #[.int .i64 0, .int .i64 0, .slice none 0 0] 46 ∧ StT w' ∧ TabB w.heap.size w' ∧ Ch No w w') ?_ ?_))))
 ·
  refine Rz 9 (.mv 0 (.mv 1 (.mv 2 (.mv 3 (.mv 4 (.mv 5 (.two 6 (.mv 7 (.wk 8 .nil)) 8 (.wk 6 (.mv 7 .nil))))))))) (fun w1 w' => Ch (No) w1 w') mixed (by kernel_rfl) (fun _ _ => Ch.refl _ _) ?_
  intro w5 D5
  have c5 := Ch.of_drew D5; have z5 := c5.size
  have sx_5 := sx.keep (c1.trans (c2.trans (c3.trans (c4.trans c5))))
  have b2_5 := b2_3.keep (c4.trans c5)
  have b3_5 := b3.keep (c3.trans (c4.trans c5))
  have b4_5 := b4.keep (c4.trans c5)
  refine Ct (fun w' hS => Qg υ46 rfl ς3 rfl rfl rfl) rfl rfl rfl rfl (Ct (fun w' hS => Qh ι3 rfl ((b2_5.keep hS).cell rfl)) rfl rfl rfl rfl (Ct (fun w' hS => Qg υ46 rfl ς3 rfl rfl rfl) rfl rfl rfl rfl (Ct (fun w' hS => Qh ι3 rfl ((b2_5.keep hS).cell rfl)) rfl rfl rfl rfl (Ct (fun w' hS => Qg υ46 rfl ς31 rfl rfl rfl) rfl rfl rfl rfl (Ct (fun w' hS => Qh ι31 rfl ((b2_5.keep hS).cell rfl)) rfl rfl rfl rfl (Wg ?_ ?_))))))
  ·
   refine Rg (Qi Tryz.call100 rfl (slices_CloneC _ _ NN _ zs _ sx_5 (fun q hq => by have := hX q hq; omega) (by omega))) rfl rfl rfl rfl ?_
   rintro _ w6 ⟨r6, A6, k6, rfl, cl6, yc6, c6⟩
   have yk6 := Ow.lt cl6
   have z6 := c6.size
   have RD_6 := (Ch.refl (No) w5).and c6
   refine ⟨RD_6, ?_⟩
   refine Ct (fun w' hS => Cl rfl (bld46_0_1_2w95 rfl)) rfl rfl rfl rfl (Rg (Cc ζ46) rfl rfl rfl rfl ?_)
   rintro _ w7 ⟨p7, rfl, N7⟩
   have c7 := N7.ch
   have e7 := N7.p; have z7 := N7.size
   have b7 := Bk.new N7
   have RD_7 := RD_6.and c7
   refine ⟨RD_7, ?_⟩
   refine Rj (Oz (Cf ς46 rfl rfl rfl rfl b7 (Nat.le_of_ble_eq_true rfl)) rfl ?_)
   intro _ w8 Z8
   have c8 := Z8.ch; have z8 := Z8.size
   have b7_8 := Bk.put Z8
   refine Qf (Qx (VQ.cut (p7, r6, A6, k6, zs) ?_ ⟨rfl, rfl, rfl, trivial⟩))
   have cc_6_8 : Ch No w6 w8 := (Ch.then (E := No) c7 c8 (by intro q h1 h2; rcases h2 with h2 | h2 <;> first | exact h2 | (exfalso; omega)))
   have cl_8 := cl6.keep cc_6_8
   have cc_5_8 : Ch No w5 w8 := (Ch.then (E := No) (c6.and c7) c8 (by intro q h1 h2; rcases h2 with h2 | h2 <;> first | exact h2 | (exfalso; omega)))
   have b3_8 := b3_5.keep cc_5_8
   have b4_8 := b4_5.keep cc_5_8
   have cc_0_8 : Ch No w w8 := (Ch.then (E := No) ((((((c1.and c2).and c3).and c4).and c5).and c6).and c7) c8 (by intro q h1 h2; rcases h2 with h2 | h2 <;> first | exact h2 | (exfalso; omega)))
   have st_8 := st.keep cc_0_8
   have tab_8 := tab.keep cc_0_8
   have CH_8 := (Ch.refl (No) w).and cc_0_8
   exact ⟨rfl, by omega, by omega, by omega, b7_8, cl_8, b3_8, b4_8, st_8, tab_8, CH_8⟩
  ·
   refine Rg (Cc ζ46) rfl rfl rfl rfl ?_
   rintro _ w9 ⟨p9, rfl, N9⟩
   have c9 := N9.ch
   have e9 := N9.p; have z9 := N9.size
   have b7 := Bk.new N9
   have RD_9 := (Ch.refl (No) w5).and c9
   refine ⟨RD_9, ?_⟩
   have sx_9 := sx_5.keep c9
   refine Rg (Qi Tryz.call100 rfl (slices_CloneC _ _ NN _ zs _ sx_9 (fun q hq => by have := hX q hq; omega) (by omega))) rfl rfl rfl rfl ?_
   rintro _ w10 ⟨r10, A10, k10, rfl, cl10, yc10, c10⟩
   have yk10 := Ow.lt cl10
   have z10 := c10.size
   have RD_10 := RD_9.and c10
   refine ⟨RD_10, ?_⟩
   refine Ct (fun w' hS => Cl rfl (bld46_0_1_2w95 rfl)) rfl rfl rfl rfl (Rj ?_)
   have b7_10 := b7.keep c10
   refine Oz (Cf ς46 rfl rfl rfl rfl b7_10 (Nat.le_of_ble_eq_true rfl)) rfl ?_
   intro _ w11 Z11
   have c11 := Z11.ch; have z11 := Z11.size
   have b7_11 := Bk.put Z11
   refine Qf (Qx (VQ.cut (p9, r10, A10, k10, zs) ?_ ⟨rfl, rfl, rfl, trivial⟩))
   have cl_11 := cl10.to c11
   have cc_5_11 : Ch No w5 w11 := (Ch.then (E := No) (c9.and c10) c11 (by intro q h1 h2; rcases h2 with h2 | h2 <;> first | exact h2 | (exfalso; omega)))
   have b3_11 := b3_5.keep cc_5_11
   have b4_11 := b4_5.keep cc_5_11
   have cc_0_11 : Ch No w w11 := (Ch.then (E := No) ((((((c1.and c2).and c3).and c4).and c5).and c9).and c10) c11 (by intro q h1 h2; rcases h2 with h2 | h2 <;> first | exact h2 | (exfalso; omega)))
   have st_11 := st.keep cc_0_11
   have tab_11 := tab.keep cc_0_11
   have CH_11 := (Ch.refl (No) w).and cc_0_11
   exact ⟨rfl, by omega, by omega, by omega, b7_11, cl_11, b3_11, b4_11, st_11, tab_11, CH_11⟩
 rintro ⟨p7, r0, A0, c0, ws0⟩ w12 ⟨hws, hp7, hr0, hrp0, b7_12, row_12, b3_12, b4_12, st_12, tab_12, CH_12⟩
 show VC _ _ _ _ [(3, .pointer (some ⟨p2, 0, none⟩)), (4, .pointer (some ⟨p3, 0, none⟩)), (7, .pointer (some ⟨p7, 0, none⟩))] _
 have z_12 := CH_12.size; have y7_12 := b7_12.lt; have yr_12 := Ow.lt row_12
 refine Qe (Qe (Qb (Om (Qc rfl) rfl (Qf (Qa (Qw (Cp (σ := Nat × Nat × Option Addr × Nat × List CB) (fun (k, r1, A1, c1, ws) => [(3, .pointer (some ⟨p2, 0, none⟩)), (4, .pointer (some ⟨p3, 0, none⟩)), (7, .pointer (some ⟨p7, 0, none⟩)), (25, .int .i64 k)]) (fun (k, r1, A1, c1, ws) w' => k ≤ 2 ∧ w.heap.size < r1 ∧ ¬ r1 = p7 + 1 ∧ p2 + 1 < r1 ∧ p3 + 1 < r1 ∧ GrX (dm R C k) (dm C R k) (gk grF R C G k) ws ∧ w12.heap.size ≤ w'.heap.size ∧ Bk w' p7 #[.int .i64 (dm R C k), .int .i64 (dm C R k), .slice A1 NN c1] 46 ∧ CR 33 w' r1 A1 NN c1 ws ∧ Bk w' p2 #[.func (.func 15) #[] #[]] 93 ∧ Bk w' p3 #[.int .i64 0, .int .i64 0, .slice none 0 0] 46 ∧ StT w' ∧ TabB w.heap.size w' ∧ Ch (No) w w') (fun (k, r1, A1, c1, ws) => 2 - k) (0, r0, A0, c0, ws0) ?_ ⟨rfl, rfl, rfl, rfl, trivial⟩ ?_)))))))
 · exact ⟨(by omega), (by omega), (by omega), (by omega), (by omega), (by rw [hws]; exact hz), (Nat.le_refl _), b7_12, row_12, b3_12, b4_12, st_12, tab_12, CH_12⟩
 rintro ⟨k, r1, A1, c1, ws⟩ w13 ⟨hk, hr1, hrp, hr3, hr4, hg, hsz13, b7_13, row_13, b3_13, b4_13, st_13, tab_13, CH_13⟩
 show VC _ _ _ _ [(3, .pointer (some ⟨p2, 0, none⟩)), (4, .pointer (some ⟨p3, 0, none⟩)), (7, .pointer (some ⟨p7, 0, none⟩)), (25, .int .i64 k)] _
 have yr9 := Ow.lt row_13
 refine Qe (Qb (Om (Cs rfl rfl) rfl (Qf (Qa (Qe (Qj rfl (fun hc1 => ?_) (fun hc1 => ?_)))))))
 ·
  refine Qn (Qa (Qe (Qw (Qe ?_))))
  have hk9 : k < 2 := by omega
  have hdm9 := dm_bd hC hR k
  refine Qb (Om (Qg υ46 rfl ς3 rfl rfl rfl) rfl (Om (Qh ι3 rfl (b7_13.cell rfl)) rfl (Oq (Qi Tryz.call13 rfl (plan_NewG (dm C R k) (by omega) (by omega) _ st_13 ((tab_13).up (by omega)) (by omega))) rfl ?_)))
  rintro _ w14 ⟨pp, PP, rfl, pl14, hpb, us, c14⟩
  have z14 := c14.size
  refine Om (Qc rfl) rfl (Om (Qq rfl rfl) rfl (Om (Qq rfl rfl) rfl (Oq (Cc Tryz.zeroValue26) rfl ?_)))
  rintro _ w15 ⟨p15, rfl, N15⟩
  have c15 := N15.ch
  have e15 := N15.p; have z15 := N15.size
  have b8 := Bk.new N15
  refine Oz (Rh Tryz.sizeOf26 rfl rfl rfl rfl b8 rfl) rfl ?_
  intro _ w16 Z16
  have c16 := Z16.ch; have z16 := Z16.size
  have b8_16 := Bk.put Z16
  refine Om (Qd rfl) rfl (Qf (Qa (Qe (Qe (Qb (Om (Qc rfl) rfl (Om (Cg υ28 rfl) rfl ?_)))))))
  refine Qf (Qa (Ca rfl (Qn (Qa (Qe (Qe (Qb ?_)))))))
  have cc_13_16 : Ch No w13 w16 := (Ch.then (E := No) (c14.and c15) c16 (by intro q h1 h2; rcases h2 with h2 | h2 <;> first | exact h2 | (exfalso; omega)))
  have b7_16 := b7_13.keep cc_13_16
  refine Om (Qr ι46 ς46 rfl rfl (b7_16.all' rfl)) rfl (Om (Rn.func rfl rfl) rfl ?_)
  have b3_16 := b3_13.keep cc_13_16
  have cc_14_16 : Ch No w14 w16 := (Ch.then (E := No) c15 c16 (by intro q h1 h2; rcases h2 with h2 | h2 <;> first | exact h2 | (exfalso; omega)))
  have pl_16 := pl14.keep cc_14_16
  have row_16 := row_13.keep cc_13_16
  have st_16 := st_13.keep cc_13_16
  refine Oq (Qi Tryz.call101 rfl (grid_rows0 p2 p15 pp _ _ PP (dm R C k) (dm C R k) NN r1 A1 c1 ws (gk grF R C G k) _ b3_16 b8_16 pl_16 (by omega) hpb us row_16 (by omega) (by omega) (by omega) (by omega) (dm_bd hR hC k) (dm_bd hC hR k) (by rw [dm_mul]; exact hN) hg st_16 (by omega))) rfl ?_
  rintro _ w17 ⟨wsR, rfl, row17, hgR, c17⟩
  have z17 := c17.size
  refine Om (Qd rfl) rfl (Qf (Qa (Qe (Qb (Om (Qc rfl) rfl (Om (Cg υ28 rfl) rfl (Qf ?_)))))))
  refine Qa (Ca rfl (Qn (Qa (Qb ?_))))
  have b7_17 := b7_16.to c17
  refine Om (Qr ι46 ς46 rfl rfl (b7_17.all' rfl)) rfl ?_
  refine Oq (Qi Tryz.call97 rfl (grid_turned _ (dm R C k) (dm C R k) NN _ _ _ _ _ (row17).sl (fun q hq => by omega) (dm_bd hR hC k) (dm_bd hC hR k) (by rw [dm_mul]; exact hN) hgR)) rfl ?_
  rintro _ w18 ⟨q18, osT, rfl, tu18, huT, e18, c18⟩
  have yt18 := Ow.lt tu18
  have z18 := c18.size
  have b7_18 := b7_17.keep c18
  refine Oz (Cf ς46 rfl rfl rfl rfl b7_18 (Nat.le_of_ble_eq_true rfl)) rfl ?_
  intro _ w19 Z19
  have c19 := Z19.ch; have z19 := Z19.size
  have b7_19 := Bk.put Z19
  refine Qf (Qo (Qa (Qb ?_)))
  refine Om (Ce rfl rfl (by rw [IntKind.wrap_i64]; omega)) rfl ?_
  refine Om (Qc rfl) rfl (Qf ?_)
  refine Ck (k + 1, (q18 + 1), (some ⟨q18, 0, none⟩), NN, osT) (by first | omega | (dsimp only; omega)) ?_ ⟨rfl, rfl, rfl, rfl, trivial⟩
  have tu_19 := tu18.to c19
  have b3_17 := b3_16.to c17
  have b3_18 := b3_17.keep c18
  have b3_19 := b3_18.to c19
  have b4_16 := b4_13.keep cc_13_16
  have b4_17 := b4_16.to c17
  have b4_18 := b4_17.keep c18
  have b4_19 := b4_18.to c19
  have st_17 := st_16.to c17
  have st_18 := st_17.keep c18
  have st_19 := st_18.to c19
  have tab_16 := tab_13.keep cc_13_16
  have tab_17 := tab_16.to c17
  have tab_18 := tab_17.keep c18
  have tab_19 := tab_18.to c19
  have CH_16 := CH_13.and cc_13_16
  have CH_17 : Ch (No) w w17 := CH_16.then c17
  have CH_18 := CH_17.and c18
  have CH_19 : Ch (No) w w19 := CH_18.then c19
  exact ⟨(by omega), (by omega), (by omega), (by omega), (by omega), (by rw [dm_succ, dm_succ]; exact huT), (by omega), (by have h9 := b7_19; rw [← dm_succ R C, ← dm_succ C R] at h9; exact h9), tu_19, b3_19, b4_19, st_19, tab_19, CH_19⟩
 ·
  refine Cr (Qk (Qk (Qz (Qa (Qe (Qb (Om (Qr ι46 ς46 rfl rfl (b7_13.all' rfl)) rfl ?_)))))))
  refine Oz (Cf ς46 rfl rfl rfl rfl b4_13 (Nat.le_of_ble_eq_true rfl)) rfl ?_
  intro _ w20 Z20
  have c20 := Z20.ch; have z20 := Z20.size
  have b4_20 := Bk.put Z20
  refine Om (Qd rfl) rfl (Qf (Qa (Qp (VQ.retct rfl rfl ι46 ς46 rfl (b4_20.all' rfl) rfl (Ret.mk ?_)))))
  have ek : k = 2 := by omega
  subst ek
  have row_20 := row_13.to c20
  have CH_20 : Ch (No) w w20 := CH_13.then c20
  exact ⟨r1, A1, c1, ws, rfl, row_20, hg, hr1, CH_20⟩
set_option maxHeartbeats 4000000 in
theorem grid_both1 (SX : Nat → Prop) (R C NN : Nat) (A : Option Addr) (cap : Nat) (zs : List CB) (G : Nat → Nat → Cx) (w : World) (sx : SlR SX w A NN 1 (zs.map cxV)) (hX : ∀ q, SX q → q < w.heap.size) (hR : 1 ≤ R ∧ R ≤ 30) (hC : 1 ≤ C ∧ C ≤ 30) (hN : NN = R * C) (hz : GrX R C G zs) (st : StT w) (tab : TabB w.heap.size w) (hG : 24 ≤ w.heap.size) :
  Calls Tryz.prog 59 #[.agg #[.int .i64 R, .int .i64 C, .slice A NN cap], .func (.func 16) #[] #[]] w (Ret (fun v w' => ∃ r1 A1 c1 ws, v = .tuple #[.agg #[.int .i64 R, .int .i64 C, .slice A1 NN c1], .nilIface] ∧ CR 33 w' r1 A1 NN c1 ws ∧ GrX R C (gk grI R C G 2) ws ∧ w.heap.size < r1 ∧ Ch No w w')) := by
 have hNb : NN ≤ 900 := by rw [hN]; exact Nat.mul_le_mul hR.2 hC.2
 have hN0 : 0 < NN := by rw [hN]; exact Nat.mul_pos hR.1 hC.1
 have hNm : (R : Int) * (C : Int) = (NN : Int) := by rw [hN, Int.natCast_mul]
 refine calls_of_VC (args := [.agg #[.int .i64 R, .int .i64 C, .slice A NN cap], .func (.func 16) #[] #[]]) Tryz.func59 rfl Tryz.ntmps59 rfl (Qe (Qb (Oq (Cj rfl) rfl ?_)))
 rintro _ w1 ⟨p1, rfl, N1⟩
 have c1 := N1.ch
 have e1 := N1.p; have z1 := N1.size
 have b2 := Bk.new N1
 refine Oq (Cj rfl) rfl ?_
 rintro _ w2 ⟨p2, rfl, N2⟩
 have c2 := N2.ch
 have e2 := N2.p; have z2 := N2.size
 have b3 := Bk.new N2
 refine Oq (Cc ζ46) rfl ?_
 rintro _ w3 ⟨p3, rfl, N3⟩
 have c3 := N3.ch
 have e3 := N3.p; have z3 := N3.size
 have b4 := Bk.new N3
 refine Om (Qd rfl) rfl (Qf (Qa (Qe (Qe (Qb ?_)))))
 have b2_3 := b2.keep (c2.trans c3)
 refine Om (Qr ι46 ς46 rfl rfl (b2_3.all' rfl)) rfl (Oq (Qi κ56 rfl (grid_Check _ _ _ _ _ _ hR hC hN)) rfl ?_)
 rintro _ w4 ⟨rfl, c4⟩
 have z4 := c4.size
 refine Om (Qd rfl) rfl (Qf (Qa (Qe (Qb (Om (Qc rfl) rfl (Om (Cg υ28 rfl) rfl (Qf ?_)))))))
 refine Qa (Ca rfl (Qn (Qa (VC.cut (σ := Nat × Nat × Option Addr × Nat × List CB) (fun (p7, r0, A0, c0, ws0) => [(3, .pointer (some ⟨p2, 0, none⟩)), (4, .pointer (some ⟨p3, 0, none⟩)), (7, .pointer (some ⟨p7, 0, none⟩))]) (fun (p7, r0, A0, c0, ws0) w' => ws0 = zs ∧ w4.heap.size ≤ p7 ∧ w4.heap.size < r0 ∧ ¬ r0 = p7 + 1 ∧ Bk w' p7 #[.int .i64 R, .int .i64 C, .slice A0 NN c0] 46 ∧ CR 33 w' r0 A0 NN c0 ws0 ∧ Bk w' p2 #[.func (.func 16) #[] #[]] 93 ∧ Bk w' p3 #[.int .i64 0, .int .i64 0, .slice none 0 0] 46 ∧ StT w' ∧ TabB w.heap.size w' ∧ Ch No w w') ?_ ?_))))
 ·
  refine Rz 9 (.mv 0 (.mv 1 (.mv 2 (.mv 3 (.mv 4 (.mv 5 (.two 6 (.mv 7 (.wk 8 .nil)) 8 (.wk 6 (.mv 7 .nil))))))))) (fun w1 w' => Ch (No) w1 w') mixed (by kernel_rfl) (fun _ _ => Ch.refl _ _) ?_
  intro w5 D5
  have c5 := Ch.of_drew D5; have z5 := c5.size
  have sx_5 := sx.keep (c1.trans (c2.trans (c3.trans (c4.trans c5))))
  have b2_5 := b2_3.keep (c4.trans c5)
  have b3_5 := b3.keep (c3.trans (c4.trans c5))
  have b4_5 := b4.keep (c4.trans c5)
  refine Ct (fun w' hS => Qg υ46 rfl ς3 rfl rfl rfl) rfl rfl rfl rfl (Ct (fun w' hS => Qh ι3 rfl ((b2_5.keep hS).cell rfl)) rfl rfl rfl rfl (Ct (fun w' hS => Qg υ46 rfl ς3 rfl rfl rfl) rfl rfl rfl rfl (Ct (fun w' hS => Qh ι3 rfl ((b2_5.keep hS).cell rfl)) rfl rfl rfl rfl (Ct (fun w' hS => Qg υ46 rfl ς31 rfl rfl rfl) rfl rfl rfl rfl (Ct (fun w' hS => Qh ι31 rfl ((b2_5.keep hS).cell rfl)) rfl rfl rfl rfl (Wg ?_ ?_))))))
  ·
   refine Rg (Qi Tryz.call100 rfl (slices_CloneC _ _ NN _ zs _ sx_5 (fun q hq => by have := hX q hq; omega) (by omega))) rfl rfl rfl rfl ?_
   rintro _ w6 ⟨r6, A6, k6, rfl, cl6, yc6, c6⟩
   have yk6 := Ow.lt cl6
   have z6 := c6.size
   have RD_6 := (Ch.refl (No) w5).and c6
   refine ⟨RD_6, ?_⟩
   refine Ct (fun w' hS => Cl rfl (bld46_0_1_2w95 rfl)) rfl rfl rfl rfl (Rg (Cc ζ46) rfl rfl rfl rfl ?_)
   rintro _ w7 ⟨p7, rfl, N7⟩
   have c7 := N7.ch
   have e7 := N7.p; have z7 := N7.size
   have b7 := Bk.new N7
   have RD_7 := RD_6.and c7
   refine ⟨RD_7, ?_⟩
   refine Rj (Oz (Cf ς46 rfl rfl rfl rfl b7 (Nat.le_of_ble_eq_true rfl)) rfl ?_)
   intro _ w8 Z8
   have c8 := Z8.ch; have z8 := Z8.size
   have b7_8 := Bk.put Z8
   refine Qf (Qx (VQ.cut (p7, r6, A6, k6, zs) ?_ ⟨rfl, rfl, rfl, trivial⟩))
   have cc_6_8 : Ch No w6 w8 := (Ch.then (E := No) c7 c8 (by intro q h1 h2; rcases h2 with h2 | h2 <;> first | exact h2 | (exfalso; omega)))
   have cl_8 := cl6.keep cc_6_8
   have cc_5_8 : Ch No w5 w8 := (Ch.then (E := No) (c6.and c7) c8 (by intro q h1 h2; rcases h2 with h2 | h2 <;> first | exact h2 | (exfalso; omega)))
   have b3_8 := b3_5.keep cc_5_8
   have b4_8 := b4_5.keep cc_5_8
   have cc_0_8 : Ch No w w8 := (Ch.then (E := No) ((((((c1.and c2).and c3).and c4).and c5).and c6).and c7) c8 (by intro q h1 h2; rcases h2 with h2 | h2 <;> first | exact h2 | (exfalso; omega)))
   have st_8 := st.keep cc_0_8
   have tab_8 := tab.keep cc_0_8
   have CH_8 := (Ch.refl (No) w).and cc_0_8
   exact ⟨rfl, by omega, by omega, by omega, b7_8, cl_8, b3_8, b4_8, st_8, tab_8, CH_8⟩
  ·
   refine Rg (Cc ζ46) rfl rfl rfl rfl ?_
   rintro _ w9 ⟨p9, rfl, N9⟩
   have c9 := N9.ch
   have e9 := N9.p; have z9 := N9.size
   have b7 := Bk.new N9
   have RD_9 := (Ch.refl (No) w5).and c9
   refine ⟨RD_9, ?_⟩
   have sx_9 := sx_5.keep c9
   refine Rg (Qi Tryz.call100 rfl (slices_CloneC _ _ NN _ zs _ sx_9 (fun q hq => by have := hX q hq; omega) (by omega))) rfl rfl rfl rfl ?_
   rintro _ w10 ⟨r10, A10, k10, rfl, cl10, yc10, c10⟩
   have yk10 := Ow.lt cl10
   have z10 := c10.size
   have RD_10 := RD_9.and c10
   refine ⟨RD_10, ?_⟩
   refine Ct (fun w' hS => Cl rfl (bld46_0_1_2w95 rfl)) rfl rfl rfl rfl (Rj ?_)
   have b7_10 := b7.keep c10
   refine Oz (Cf ς46 rfl rfl rfl rfl b7_10 (Nat.le_of_ble_eq_true rfl)) rfl ?_
   intro _ w11 Z11
   have c11 := Z11.ch; have z11 := Z11.size
   have b7_11 := Bk.put Z11
   refine Qf (Qx (VQ.cut (p9, r10, A10, k10, zs) ?_ ⟨rfl, rfl, rfl, trivial⟩))
   have cl_11 := cl10.to c11
   have cc_5_11 : Ch No w5 w11 := (Ch.then (E := No) (c9.and c10) c11 (by intro q h1 h2; rcases h2 with h2 | h2 <;> first | exact h2 | (exfalso; omega)))
   have b3_11 := b3_5.keep cc_5_11
   have b4_11 := b4_5.keep cc_5_11
   have cc_0_11 : Ch No w w11 := (Ch.then (E := No) ((((((c1.and c2).and c3).and c4).and c5).and c9).and c10) c11 (by intro q h1 h2; rcases h2 with h2 | h2 <;> first | exact h2 | (exfalso; omega)))
   have st_11 := st.keep cc_0_11
   have tab_11 := tab.keep cc_0_11
   have CH_11 := (Ch.refl (No) w).and cc_0_11
   exact ⟨rfl, by omega, by omega, by omega, b7_11, cl_11, b3_11, b4_11, st_11, tab_11, CH_11⟩
 rintro ⟨p7, r0, A0, c0, ws0⟩ w12 ⟨hws, hp7, hr0, hrp0, b7_12, row_12, b3_12, b4_12, st_12, tab_12, CH_12⟩
 show VC _ _ _ _ [(3, .pointer (some ⟨p2, 0, none⟩)), (4, .pointer (some ⟨p3, 0, none⟩)), (7, .pointer (some ⟨p7, 0, none⟩))] _
 have z_12 := CH_12.size; have y7_12 := b7_12.lt; have yr_12 := Ow.lt row_12
 refine Qe (Qe (Qb (Om (Qc rfl) rfl (Qf (Qa (Qw (Cp (σ := Nat × Nat × Option Addr × Nat × List CB) (fun (k, r1, A1, c1, ws) => [(3, .pointer (some ⟨p2, 0, none⟩)), (4, .pointer (some ⟨p3, 0, none⟩)), (7, .pointer (some ⟨p7, 0, none⟩)), (25, .int .i64 k)]) (fun (k, r1, A1, c1, ws) w' => k ≤ 2 ∧ w.heap.size < r1 ∧ ¬ r1 = p7 + 1 ∧ p2 + 1 < r1 ∧ p3 + 1 < r1 ∧ GrX (dm R C k) (dm C R k) (gk grI R C G k) ws ∧ w12.heap.size ≤ w'.heap.size ∧ Bk w' p7 #[.int .i64 (dm R C k), .int .i64 (dm C R k), .slice A1 NN c1] 46 ∧ CR 33 w' r1 A1 NN c1 ws ∧ Bk w' p2 #[.func (.func 16) #[] #[]] 93 ∧ Bk w' p3 #[.int .i64 0, .int .i64 0, .slice none 0 0] 46 ∧ StT w' ∧ TabB w.heap.size w' ∧ Ch (No) w w') (fun (k, r1, A1, c1, ws) => 2 - k) (0, r0, A0, c0, ws0) ?_ ⟨rfl, rfl, rfl, rfl, trivial⟩ ?_)))))))
 · exact ⟨(by omega), (by omega), (by omega), (by omega), (by omega), (by rw [hws]; exact hz), (Nat.le_refl _), b7_12, row_12, b3_12, b4_12, st_12, tab_12, CH_12⟩
 rintro ⟨k, r1, A1, c1, ws⟩ w13 ⟨hk, hr1, hrp, hr3, hr4, hg, hsz13, b7_13, row_13, b3_13, b4_13, st_13, tab_13, CH_13⟩
 show VC _ _ _ _ [(3, .pointer (some ⟨p2, 0, none⟩)), (4, .pointer (some ⟨p3, 0, none⟩)), (7, .pointer (some ⟨p7, 0, none⟩)), (25, .int .i64 k)] _
 have yr9 := Ow.lt row_13
 refine Qe (Qb (Om (Cs rfl rfl) rfl (Qf (Qa (Qe (Qj rfl (fun hc1 => ?_) (fun hc1 => ?_)))))))
 ·
  refine Qn (Qa (Qe (Qw (Qe ?_))))
  have hk9 : k < 2 := by omega
  have hdm9 := dm_bd hC hR k
  refine Qb (Om (Qg υ46 rfl ς3 rfl rfl rfl) rfl (Om (Qh ι3 rfl (b7_13.cell rfl)) rfl (Oq (Qi Tryz.call13 rfl (plan_NewG (dm C R k) (by omega) (by omega) _ st_13 ((tab_13).up (by omega)) (by omega))) rfl ?_)))
  rintro _ w14 ⟨pp, PP, rfl, pl14, hpb, us, c14⟩
  have z14 := c14.size
  refine Om (Qc rfl) rfl (Om (Qq rfl rfl) rfl (Om (Qq rfl rfl) rfl (Oq (Cc Tryz.zeroValue26) rfl ?_)))
  rintro _ w15 ⟨p15, rfl, N15⟩
  have c15 := N15.ch
  have e15 := N15.p; have z15 := N15.size
  have b8 := Bk.new N15
  refine Oz (Rh Tryz.sizeOf26 rfl rfl rfl rfl b8 rfl) rfl ?_
  intro _ w16 Z16
  have c16 := Z16.ch; have z16 := Z16.size
  have b8_16 := Bk.put Z16
  refine Om (Qd rfl) rfl (Qf (Qa (Qe (Qe (Qb (Om (Qc rfl) rfl (Om (Cg υ28 rfl) rfl ?_)))))))
  refine Qf (Qa (Ca rfl (Qn (Qa (Qe (Qe (Qb ?_)))))))
  have cc_13_16 : Ch No w13 w16 := (Ch.then (E := No) (c14.and c15) c16 (by intro q h1 h2; rcases h2 with h2 | h2 <;> first | exact h2 | (exfalso; omega)))
  have b7_16 := b7_13.keep cc_13_16
  refine Om (Qr ι46 ς46 rfl rfl (b7_16.all' rfl)) rfl (Om (Rn.func rfl rfl) rfl ?_)
  have b3_16 := b3_13.keep cc_13_16
  have cc_14_16 : Ch No w14 w16 := (Ch.then (E := No) c15 c16 (by intro q h1 h2; rcases h2 with h2 | h2 <;> first | exact h2 | (exfalso; omega)))
  have pl_16 := pl14.keep cc_14_16
  have row_16 := row_13.keep cc_13_16
  have st_16 := st_13.keep cc_13_16
  refine Oq (Qi Tryz.call101 rfl (grid_rows1 p2 p15 pp _ _ PP (dm R C k) (dm C R k) NN r1 A1 c1 ws (gk grI R C G k) _ b3_16 b8_16 pl_16 (by omega) hpb us row_16 (by omega) (by omega) (by omega) (by omega) (dm_bd hR hC k) (dm_bd hC hR k) (by rw [dm_mul]; exact hN) hg st_16 (by omega))) rfl ?_
  rintro _ w17 ⟨wsR, rfl, row17, hgR, c17⟩
  have z17 := c17.size
  refine Om (Qd rfl) rfl (Qf (Qa (Qe (Qb (Om (Qc rfl) rfl (Om (Cg υ28 rfl) rfl (Qf ?_)))))))
  refine Qa (Ca rfl (Qn (Qa (Qb ?_))))
  have b7_17 := b7_16.to c17
  refine Om (Qr ι46 ς46 rfl rfl (b7_17.all' rfl)) rfl ?_
  refine Oq (Qi Tryz.call97 rfl (grid_turned _ (dm R C k) (dm C R k) NN _ _ _ _ _ (row17).sl (fun q hq => by omega) (dm_bd hR hC k) (dm_bd hC hR k) (by rw [dm_mul]; exact hN) hgR)) rfl ?_
  rintro _ w18 ⟨q18, osT, rfl, tu18, huT, e18, c18⟩
  have yt18 := Ow.lt tu18
  have z18 := c18.size
  have b7_18 := b7_17.keep c18
  refine Oz (Cf ς46 rfl rfl rfl rfl b7_18 (Nat.le_of_ble_eq_true rfl)) rfl ?_
  intro _ w19 Z19
  have c19 := Z19.ch; have z19 := Z19.size
  have b7_19 := Bk.put Z19
  refine Qf (Qo (Qa (Qb ?_)))
  refine Om (Ce rfl rfl (by rw [IntKind.wrap_i64]; omega)) rfl ?_
  refine Om (Qc rfl) rfl (Qf ?_)
  refine Ck (k + 1, (q18 + 1), (some ⟨q18, 0, none⟩), NN, osT) (by first | omega | (dsimp only; omega)) ?_ ⟨rfl, rfl, rfl, rfl, trivial⟩
  have tu_19 := tu18.to c19
  have b3_17 := b3_16.to c17
  have b3_18 := b3_17.keep c18
  have b3_19 := b3_18.to c19
  have b4_16 := b4_13.keep cc_13_16
  have b4_17 := b4_16.to c17
  have b4_18 := b4_17.keep c18
  have b4_19 := b4_18.to c19
  have st_17 := st_16.to c17
  have st_18 := st_17.keep c18
  have st_19 := st_18.to c19
  have tab_16 := tab_13.keep cc_13_16
  have tab_17 := tab_16.to c17
  have tab_18 := tab_17.keep c18
  have tab_19 := tab_18.to c19
  have CH_16 := CH_13.and cc_13_16
  have CH_17 : Ch (No) w w17 := CH_16.then c17
  have CH_18 := CH_17.and c18
  have CH_19 : Ch (No) w w19 := CH_18.then c19
  exact ⟨(by omega), (by omega), (by omega), (by omega), (by omega), (by rw [dm_succ, dm_succ]; exact huT), (by omega), (by have h9 := b7_19; rw [← dm_succ R C, ← dm_succ C R] at h9; exact h9), tu_19, b3_19, b4_19, st_19, tab_19, CH_19⟩
 ·
  refine Cr (Qk (Qk (Qz (Qa (Qe (Qb (Om (Qr ι46 ς46 rfl rfl (b7_13.all' rfl)) rfl ?_)))))))
  refine Oz (Cf ς46 rfl rfl rfl rfl b4_13 (Nat.le_of_ble_eq_true rfl)) rfl ?_
  intro _ w20 Z20
  have c20 := Z20.ch; have z20 := Z20.size
  have b4_20 := Bk.put Z20
  refine Om (Qd rfl) rfl (Qf (Qa (Qp (VQ.retct rfl rfl ι46 ς46 rfl (b4_20.all' rfl) rfl (Ret.mk ?_)))))
  have ek : k = 2 := by omega
  subst ek
  have row_20 := row_13.to c20
  have CH_20 : Ch (No) w w20 := CH_13.then c20
  exact ⟨r1, A1, c1, ws, rfl, row_20, hg, hr1, CH_20⟩
set_option maxHeartbeats 1000000 in
theorem grid_Forward (SX : Nat → Prop) (R C NN : Nat) (A : Option Addr) (cap : Nat) (zs : List CB) (G : Nat → Nat → Cx) (w : World) (sx : SlR SX w A NN 1 (zs.map cxV)) (hX : ∀ q, SX q → q < w.heap.size) (hR : 1 ≤ R ∧ R ≤ 30) (hC : 1 ≤ C ∧ C ≤ 30) (hN : NN = R * C) (hz : GrX R C G zs) (st : StT w) (tab : TabB w.heap.size w) (hG : 24 ≤ w.heap.size) :
  Calls Tryz.prog 24 #[.agg #[.int .i64 R, .int .i64 C, .slice A NN cap]] w (Ret (fun v w' => ∃ r1 A1 c1 ws, v = .tuple #[.agg #[.int .i64 R, .int .i64 C, .slice A1 NN c1], .nilIface] ∧ CR 33 w' r1 A1 NN c1 ws ∧ GrX R C (gk grF R C G 2) ws ∧ w.heap.size < r1 ∧ Ch No w w')) := by
 refine calls_of_VC (args := [.agg #[.int .i64 R, .int .i64 C, .slice A NN cap]]) Tryz.func24 rfl Tryz.ntmps24 rfl (Qe (Qb (Oq (Cj rfl) rfl ?_)))
 rintro _ w1 ⟨p1, rfl, N1⟩
 have c1 := N1.ch
 have e1 := N1.p; have z1 := N1.size
 have b1 := Bk.new N1
 refine Oq (Cc ζ46) rfl ?_
 rintro _ w2 ⟨p2, rfl, N2⟩
 have c2 := N2.ch
 have e2 := N2.p; have z2 := N2.size
 have b2 := Bk.new N2
 refine Om (Qd rfl) rfl (Qf (Qa (Qe (Qb ?_))))
 have b1_2 := b1.keep c2
 refine Om (Qr ι46 ς46 rfl rfl (b1_2.all' rfl)) rfl ?_
 have sx_2 := sx.keep (c1.trans c2)
 have st_2 := st.keep (c1.trans c2)
 have tab_2 := tab.keep (c1.trans c2)
 refine Oq (Qi Tryz.call59 rfl (grid_both0 _ R C NN _ _ _ G _ sx_2 (fun q hq => by have := hX q hq; omega) hR hC hN hz st_2 ((tab_2).up (by omega)) (by omega))) rfl ?_
 rintro _ w3 ⟨r3, A3, c3', os3, rfl, gr3, hg3, yg3, c3⟩
 have yw3 := Ow.lt gr3
 have z3 := c3.size
 refine Om (Qq rfl rfl) rfl (Om (Qq rfl rfl) rfl ?_)
 have b2_3 := b2.keep c3
 refine Oz (Cf ς46 rfl rfl rfl rfl b2_3 (Nat.le_of_ble_eq_true rfl)) rfl ?_
 intro _ w4 Z4
 have c4 := Z4.ch; have z4 := Z4.size
 have b2_4 := Bk.put Z4
 refine Om (Qd rfl) rfl (Qf (Qa (Qp (VQ.retct rfl rfl ι46 ς46 rfl (b2_4.all' rfl) rfl (Ret.mk ?_)))))
 have gr3_4 := gr3.to c4
 have cc_0_4 : Ch No w w4 := (Ch.then (E := No) ((c1.and c2).and c3) c4 (by intro q h1 h2; rcases h2 with h2 | h2 <;> first | exact h2 | (exfalso; omega)))
 have CH_4 := (Ch.refl (No) w).and cc_0_4
 exact ⟨_, _, _, _, rfl, gr3_4, hg3, by omega, CH_4⟩
set_option maxHeartbeats 1000000 in
theorem grid_Inverse (SX : Nat → Prop) (R C NN : Nat) (A : Option Addr) (cap : Nat) (zs : List CB) (G : Nat → Nat → Cx) (w : World) (sx : SlR SX w A NN 1 (zs.map cxV)) (hX : ∀ q, SX q → q < w.heap.size) (hR : 1 ≤ R ∧ R ≤ 30) (hC : 1 ≤ C ∧ C ≤ 30) (hN : NN = R * C) (hz : GrX R C G zs) (st : StT w) (tab : TabB w.heap.size w) (hG : 24 ≤ w.heap.size) :
  Calls Tryz.prog 25 #[.agg #[.int .i64 R, .int .i64 C, .slice A NN cap]] w (Ret (fun v w' => ∃ r1 A1 c1 ws, v = .tuple #[.agg #[.int .i64 R, .int .i64 C, .slice A1 NN c1], .nilIface] ∧ CR 33 w' r1 A1 NN c1 ws ∧ GrX R C (gk grI R C G 2) ws ∧ w.heap.size < r1 ∧ Ch No w w')) := by
 refine calls_of_VC (args := [.agg #[.int .i64 R, .int .i64 C, .slice A NN cap]]) Tryz.func25 rfl Tryz.ntmps25 rfl (Qe (Qb (Oq (Cj rfl) rfl ?_)))
 rintro _ w1 ⟨p1, rfl, N1⟩
 have c1 := N1.ch
 have e1 := N1.p; have z1 := N1.size
 have b1 := Bk.new N1
 refine Oq (Cc ζ46) rfl ?_
 rintro _ w2 ⟨p2, rfl, N2⟩
 have c2 := N2.ch
 have e2 := N2.p; have z2 := N2.size
 have b2 := Bk.new N2
 refine Om (Qd rfl) rfl (Qf (Qa (Qe (Qb ?_))))
 have b1_2 := b1.keep c2
 refine Om (Qr ι46 ς46 rfl rfl (b1_2.all' rfl)) rfl ?_
 have sx_2 := sx.keep (c1.trans c2)
 have st_2 := st.keep (c1.trans c2)
 have tab_2 := tab.keep (c1.trans c2)
 refine Oq (Qi Tryz.call59 rfl (grid_both1 _ R C NN _ _ _ G _ sx_2 (fun q hq => by have := hX q hq; omega) hR hC hN hz st_2 ((tab_2).up (by omega)) (by omega))) rfl ?_
 rintro _ w3 ⟨r3, A3, c3', os3, rfl, gr3, hg3, yg3, c3⟩
 have yw3 := Ow.lt gr3
 have z3 := c3.size
 refine Om (Qq rfl rfl) rfl (Om (Qq rfl rfl) rfl ?_)
 have b2_3 := b2.keep c3
 refine Oz (Cf ς46 rfl rfl rfl rfl b2_3 (Nat.le_of_ble_eq_true rfl)) rfl ?_
 intro _ w4 Z4
 have c4 := Z4.ch; have z4 := Z4.size
 have b2_4 := Bk.put Z4
 refine Om (Qd rfl) rfl (Qf (Qa (Qp (VQ.retct rfl rfl ι46 ς46 rfl (b2_4.all' rfl) rfl (Ret.mk ?_)))))
 have gr3_4 := gr3.to c4
 have cc_0_4 : Ch No w w4 := (Ch.then (E := No) ((c1.and c2).and c3) c4 (by intro q h1 h2; rcases h2 with h2 | h2 <;> first | exact h2 | (exfalso; omega)))
 have CH_4 := (Ch.refl (No) w).and cc_0_4
 exact ⟨_, _, _, _, rfl, gr3_4, hg3, by omega, CH_4⟩
end Go.Tm
namespace Go.Tm
structure RelF (R : Fl → Fl → Prop) (K : Fl → Prop) : Prop where
  add : ∀ {x x' y y' : Fl}, R x x' → R y y' → R (fadd x y) (fadd x' y')
  sub : ∀ {x x' y y' : Fl}, R x x' → R y y' → R (fsub x y) (fsub x' y')
  mul : ∀ {x x' c : Fl}, R x x' → K c → R (fmul x c) (fmul x' c)
  quo : ∀ {x x' : Fl} {n : Int}, 1 ≤ n → n ≤ 16384 → R x x' → R (fquo x (fi n)) (fquo x' (fi n))
  neg : ∀ {x x' : Fl}, R x x' → R (fneg x) (fneg x')
  zero : R fl0 fl0
  cst : K (cn 4602678819172646912) ∧ K (cn 4605975682916830378) ∧ K (cn 4606741575090066687) ∧ K (cn 4603469518431672926) ∧ K (cn 4599238375200778576) ∧ K (cn 13828834233668859048)
def RC (R : Fl → Fl → Prop) (a b : Cx) : Prop := R a.1 b.1 ∧ R a.2 b.2
def KC (K : Fl → Prop) (a : Cx) : Prop := K a.1 ∧ K a.2
section
variable {R : Fl → Fl → Prop} {K : Fl → Prop} (h : RelF R K)
include h
theorem RelF.z : RC R z0 z0 := ⟨h.zero, h.zero⟩
theorem RelF.plus {a b c d : Cx} (p : RC R a b) (q : RC R c d) : RC R (plusC a c) (plusC b d) := ⟨h.add p.1 q.1, h.add p.2 q.2⟩
theorem RelF.less {a b c d : Cx} (p : RC R a b) (q : RC R c d) : RC R (lessC a c) (lessC b d) := ⟨h.sub p.1 q.1, h.sub p.2 q.2⟩
theorem RelF.mulC {a b c : Cx} (p : RC R a b) (q : KC K c) : RC R (Go.Tm.mulC a c) (Go.Tm.mulC b c) := ⟨h.sub (h.mul p.1 q.1) (h.mul p.2 q.2), h.add (h.mul p.1 q.2) (h.mul p.2 q.1)⟩
theorem RelF.conj {a b : Cx} (p : RC R a b) : RC R (conjC a) (conjC b) := ⟨p.1, h.neg p.2⟩
theorem RelF.ti {a b : Cx} (p : RC R a b) : RC R (timesI a) (timesI b) := ⟨h.neg p.2, p.1⟩
theorem RelF.mi {a b : Cx} (p : RC R a b) : RC R (minusI a) (minusI b) := ⟨p.2, h.neg p.1⟩
theorem RelF.tf {a b : Cx} {f : Fl} (p : RC R a b) (q : K f) : RC R (timesF a f) (timesF b f) := ⟨h.mul p.1 q, h.mul p.2 q⟩
theorem RelF.over {a b : Cx} {n : Int} (h1 : 1 ≤ n) (h2 : n ≤ 16384) (p : RC R a b) : RC R (overC a n) (overC b n) := ⟨h.quo h1 h2 p.1, h.quo h1 h2 p.2⟩
theorem RelF.twist {a b : Cx} {n k : Nat} (p : RC R a b) (q : KC K (rootF n k)) : RC R (twistF a n k) (twistF b n k) := by
  unfold twistF
  split
  · exact p
  · exact h.mulC p q
theorem RelF.list {l m : List Cx} (hl : l.length = m.length) (hg : ∀ i, i < l.length → RC R (l.getD i z0) (m.getD i z0)) (k : Nat) : RC R (l.getD k z0) (m.getD k z0) := by
  by_cases e : k < l.length
  · exact hg k e
  · simp only [List.getD, List.getElem?_eq_none (show l.length ≤ k by omega), List.getElem?_eq_none (show m.length ≤ k by omega)]
    exact h.z
theorem RelF.fly {n : Nat} (h2 : 2 ≤ n) (h5 : n ≤ 5) {x y : Nat → Cx} (hx : ∀ j, RC R (x j) (y j)) (k : Nat) : RC R ((flyG ((List.range n).map x)).getD k z0) ((flyG ((List.range n).map y)).getD k z0) := by
  obtain ⟨c1, c2, c3, c4, c5, c6⟩ := h.cst
  have hn : n = 2 ∨ n = 3 ∨ n = 4 ∨ n = 5 := by omega
  rcases hn with rfl | rfl | rfl | rfl
  · show RC R ([plusC (x 0) (x 1), lessC (x 0) (x 1)].getD k z0) ([plusC (y 0) (y 1), lessC (y 0) (y 1)].getD k z0)
    refine h.list (by rfl) (fun i hi => ?_) k
    match i, hi with
    | 0, _ => exact h.plus (hx 0) (hx 1)
    | 1, _ => exact h.less (hx 0) (hx 1)
  · show RC R ((fl3 (x 0) (x 1) (x 2)).getD k z0) ((fl3 (y 0) (y 1) (y 2)).getD k z0)
    have m := h.less (hx 0) (h.tf (h.plus (hx 1) (hx 2)) c1)
    have u := h.tf (h.less (hx 1) (hx 2)) c2
    refine h.list (by rfl) (fun i hi => ?_) k
    match i, hi with
    | 0, _ => exact h.plus (hx 0) (h.plus (hx 1) (hx 2))
    | 1, _ => exact h.plus m (h.mi u)
    | 2, _ => exact h.plus m (h.ti u)
  · have p := h.plus (hx 0) (hx 2)
    have q := h.less (hx 0) (hx 2)
    have s := h.plus (hx 1) (hx 3)
    have u := h.less (hx 1) (hx 3)
    refine h.list (by rfl) (fun i hi => ?_) k
    match i, hi with
    | 0, _ => exact h.plus p s
    | 1, _ => exact h.plus q (h.mi u)
    | 2, _ => exact h.less p s
    | 3, _ => exact h.plus q (h.ti u)
  · show RC R ((fl5 (x 0) (x 1) (x 2) (x 3) (x 4)).getD k z0) ((fl5 (y 0) (y 1) (y 2) (y 3) (y 4)).getD k z0)
    have t := h.plus (hx 1) (hx 4)
    have v := h.plus (hx 2) (hx 3)
    have u := h.less (hx 1) (hx 4)
    have w := h.less (hx 2) (hx 3)
    have m := h.plus (hx 0) (h.plus (h.tf t c5) (h.tf v c6))
    have n := h.plus (hx 0) (h.plus (h.tf t c6) (h.tf v c5))
    have g := h.plus (h.tf u c3) (h.tf w c4)
    have f := h.less (h.tf u c4) (h.tf w c3)
    refine h.list (by rfl) (fun i hi => ?_) k
    match i, hi with
    | 0, _ => exact h.plus (hx 0) (h.plus t v)
    | 1, _ => exact h.plus m (h.mi g)
    | 2, _ => exact h.plus n (h.mi f)
    | 3, _ => exact h.plus n (h.ti f)
    | 4, _ => exact h.plus m (h.ti g)
theorem RelF.sum {n k : Nat} {x y : Nat → Cx} (hn : 1 ≤ n) (hk : ∀ j, j < n → KC K (rootF n j)) (hx : ∀ j, RC R (x j) (y j)) : ∀ j, RC R (sumG n k x j) (sumG n k y j)
  | 0 => hx 0
  | j + 1 => by
    unfold sumG
    refine h.plus (RelF.sum hn hk hx j) ?_
    split
    · exact hx (j + 1)
    · exact h.mulC (hx (j + 1)) (hk _ (Nat.mod_lt _ (by omega)))
end
inductive KO (K : Fl → Prop) : Ord → Prop
  | direct {n : Int} : 1 ≤ n → (∀ j, j < n.toNat → KC K (rootF n.toNat j)) → KO K (.mk 1 n [])
  | fly {n : Int} : 2 ≤ n → n ≤ 5 → KO K (.mk 2 n [])
  | times {n : Int} {a b : Ord} : KO K a → KO K b → 1 ≤ a.len → 1 ≤ b.len → (∀ j, j < a.len.toNat * b.len.toNat → KC K (rootF (a.len.toNat * b.len.toNat) j)) → KO K (.mk 3 n [a, b])
  | blue {n : Int} {a : Ord} : KO K a → 1 ≤ a.len → a.len ≤ 16384 → (∀ j, KC K (chirpF n.toNat j)) → (∀ i, KC K (trM a (otherF n.toNat a.len.toNat) i)) → KO K (.mk 4 n [a])
theorem trM_rel {R : Fl → Fl → Prop} {K : Fl → Prop} (h : RelF R K) {o : Ord} (ho : KO K o) : ∀ {x y : Nat → Cx}, (∀ j, RC R (x j) (y j)) → ∀ k, RC R (trM o x k) (trM o y k) := by
  induction ho with
  | @direct n h1 hk =>
    intro x y hx k
    rw [trM_direct]
    exact h.sum (by omega) hk hx _
  | @fly n h1 h2 =>
    intro x y hx k
    rw [trM_fly]
    exact h.fly (by omega) (by omega) hx k
  | @times n a b ha hb h1 h2 hk ia ib =>
    intro x y hx k
    rw [trM_times]
    refine ia (fun j => ?_) _
    exact h.twist (ib (fun l => hx _) _) (hk _ (Nat.mod_lt _ (Nat.mul_pos (by omega) (by omega))))
  | @blue n a ha h1 h2 hc hv ia =>
    intro x y hx k
    rw [trM_blue]
    unfold trB
    refine h.mulC (h.over (by omega) (by omega) (h.conj (ia (fun i => ?_) _))) (hc k)
    refine h.conj (h.mulC (ia (fun j => ?_) _) (hv i))
    split
    · exact h.mulC (hx j) (hc j)
    · exact h.z
open Ieee
theorem xor_mod (b : Nat) : (b ^^^ 2 ^ 63) % 2 ^ 63 = b % 2 ^ 63 := by rw [Nat.xor_mod_two_pow]; simp
theorem read_zero {b : Nat} (h : b % 2 ^ 63 = 0) : ∃ s, double.read b = .number s 0 (-1074) := by
  have e1 : double.signWeight = 2 ^ 63 := rfl
  have e2 : double.binade = 2 ^ 52 := rfl
  unfold Format.read
  simp only [e1, h, e2]
  exact ⟨_, rfl⟩
theorem nearest_nought (s : Bool) (p : Int) : double.nearest s 0 p % 2 ^ 63 = 0 := by
  have e1 : double.signWeight = 2 ^ 63 := rfl
  unfold Format.nearest Format.word
  rw [if_pos rfl, e1]
  cases s <;> rfl
theorem signed_nought (s : Bool) (u : Nat) : signed s 0 u = 0 := by
  unfold signed
  cases s <;> simp
end Go.Tm
namespace Go.Tm
open Ieee
theorem cn_wd (s : Bool) {c : Nat} (h : c < 2 ^ 53) : cn (wd s c) = some (wd s c) := by
  rw [cn_eq, if_neg]
  unfold wd
  by_cases h0 : c = 0
  · subst h0; cases s <;> simp
  · obtain ⟨h1, h2, h3⟩ := log2_bd h0 h
    rw [if_neg h0]
    generalize c * 2 ^ (52 - c.log2) = K at *
    generalize c.log2 = L at *
    cases s <;> simp <;> omega
theorem Wh.cn_int {a : Int} (ha : Sm a) : Wh (fi a) a := by
  obtain ⟨s, e, h⟩ := Wh.of_int ha
  injection e with e
  refine ⟨s, ?_, h⟩
  show cn (FloatKind.f64.nearest a) = _
  rw [e, cn_wd s ha]
end Go.Tm
namespace Go.Tm
open Ieee
def Bd (E : Nat) (x : Fl) : Prop := ∃ b, x = some b ∧ b % 2 ^ 63 ≤ E * 2 ^ 52
theorem Bd.mono {E F : Nat} {x : Fl} (h : Bd E x) (l : E ≤ F) : Bd F x := by
  obtain ⟨b, e, h⟩ := h
  exact ⟨b, e, Nat.le_trans h (Nat.mul_le_mul_right _ l)⟩
def bdB (E : Nat) (x : Fl) : Bool := match x with
  | some b => Nat.ble (b % 2 ^ 63) (E * 2 ^ 52)
  | none => false
theorem Bd.of {E : Nat} {x : Fl} (h : bdB E x = true) : Bd E x := by
  cases x with
  | none => cases h
  | some b => exact ⟨b, rfl, Nat.le_of_ble_eq_true h⟩
def Le2 (mag : Nat) (place e : Int) : Prop := mag = 0 ∨ (0 ≤ e - place ∧ mag ≤ 2 ^ (e - place).toNat)
theorem read_bd {E b : Nat} (h1 : 1 ≤ E) (h2 : E ≤ 2046) (h : b % 2 ^ 63 ≤ E * 2 ^ 52) : ∃ s m p, double.read b = .number s m p ∧ -1074 ≤ p ∧ m < 2 ^ 53 ∧ Le2 m p ((E : Int) - 1023) := by
  have e1 : double.signWeight = 2 ^ 63 := rfl
  have e2 : double.binade = 2 ^ 52 := rfl
  have e3 : double.infRung = 2047 * 2 ^ 52 := rfl
  have e4 : double.leastPlace = -1074 := rfl
  unfold Format.read
  simp only [e1, e2, e3, e4]
  generalize b % 2 ^ 63 = r at *
  by_cases c : r < 2 ^ 52
  · rw [if_pos c]
    refine ⟨_, _, _, rfl, by omega, by omega, .inr ⟨by omega, ?_⟩⟩
    have : 2 ^ 52 ≤ 2 ^ ((E : Int) - 1023 - -1074).toNat := Nat.pow_le_pow_right (by decide) (by omega)
    omega
  · rw [if_neg c, if_pos (by omega)]
    have hq : r / 2 ^ 52 ≤ E := by
      have := Nat.div_le_div_right (c := 2 ^ 52) h
      rwa [Nat.mul_div_cancel _ (by decide)] at this
    have hq1 : 1 ≤ r / 2 ^ 52 := (Nat.le_div_iff_mul_le (by decide)).2 (by omega)
    have hm := Nat.mod_lt r (show 0 < 2 ^ 52 by decide)
    have hd := Nat.div_add_mod r (2 ^ 52)
    refine ⟨_, _, _, rfl, by omega, by omega, .inr ⟨by omega, ?_⟩⟩
    by_cases e : r / 2 ^ 52 = E
    · have : 2 ^ 52 ≤ 2 ^ ((E : Int) - 1023 - (-1074 + ((r / 2 ^ 52 - 1 : Nat) : Int))).toNat := Nat.pow_le_pow_right (by decide) (by omega)
      have h0 : r % 2 ^ 52 = 0 := by rw [e] at hd; omega
      omega
    · have : 2 ^ 53 ≤ 2 ^ ((E : Int) - 1023 - (-1074 + ((r / 2 ^ 52 - 1 : Nat) : Int))).toNat := Nat.pow_le_pow_right (by decide) (by omega)
      omega
theorem cut_le {s : Bool} {n d A : Nat} (h : n ≤ A * 2 ^ d) : Toward.even.cut s n d ≤ A := by
  unfold Toward.cut
  rw [Nat.one_shiftLeft]
  by_cases c : d ≤ n.log2 + 2
  · rw [Nat.min_eq_left c]
    have h2 := Nat.two_pow_pos d
    have hl : n / 2 ^ d ≤ A := Nat.div_le_of_le_mul (by rw [Nat.mul_comm]; exact h)
    by_cases e : n / 2 ^ d = A
    · have hd := Nat.div_add_mod n (2 ^ d)
      rw [e, Nat.mul_comm] at hd
      have h0 : n % 2 ^ d = 0 := by omega
      simp only [e, h0]
      have h9 : ¬ 2 ^ d = 0 := by omega
      rw [show (2 ^ d == 0) = false from beq_eq_false_iff_ne.2 h9]
      simp
    · have hb : ∀ b : Bool, b.toNat ≤ 1 := fun b => by cases b <;> decide
      have := hb (decide (2 ^ d < 2 * (n % 2 ^ d)) || 2 ^ d == 2 * (n % 2 ^ d) && n / 2 ^ d % 2 == 1)
      simp only
      omega
  · rw [Nat.min_eq_right (by omega)]
    have hlt : n < 2 ^ (n.log2 + 1) := Nat.lt_log2_self
    have hp : 2 ^ (n.log2 + 2) = 2 * 2 ^ (n.log2 + 1) := by rw [Nat.pow_succ, Nat.mul_comm]
    have h0 : n / 2 ^ (n.log2 + 2) = 0 := Nat.div_eq_of_lt (by omega)
    have h1 : n % 2 ^ (n.log2 + 2) = n := Nat.mod_eq_of_lt (by omega)
    simp only [h0, h1]
    have a1 : ¬ 2 ^ (n.log2 + 2) < 2 * n := by omega
    have a2 : ¬ 2 ^ (n.log2 + 2) = 2 * n := by omega
    simp [a1, a2]
theorem nearest_bd {s : Bool} {mag E : Nat} {place : Int} (h1 : 1 ≤ E) (h2 : E ≤ 2046) (h : Le2 mag place ((E : Int) - 1023)) : double.nearest s mag place % 2 ^ 63 ≤ E * 2 ^ 52 := by
  have e1 : double.signWeight = 2 ^ 63 := rfl
  have e2 : double.fractionBits = 52 := rfl
  have e3 : double.infRung = 2047 * 2 ^ 52 := rfl
  have e4 : double.leastPlace = -1074 := rfl
  have e5 : double.binade = 2 ^ 52 := rfl
  by_cases h0 : mag = 0
  · subst h0; rw [nearest_nought]; omega
  obtain ⟨hd, hm⟩ := h.resolve_left h0
  unfold Format.nearest
  rw [if_neg h0, e2, e3, e4, e5]
  generalize hL : mag.log2 = L
  have hL1 : 2 ^ L ≤ mag := by rw [← hL]; exact Nat.log2_self_le h0
  have hL2 : mag < 2 ^ (L + 1) := by rw [← hL]; exact Nat.lt_log2_self
  have hLd : L ≤ ((E : Int) - 1023 - place).toNat := (Nat.pow_le_pow_iff_right (by decide : 1 < 2)).1 (Nat.le_trans hL1 hm)
  generalize hlast : max (place + (L : Int) - ((52 : Nat) : Int)) (-1074) = last
  have l1 : place + L - 52 ≤ last := by omega
  have l2 : -1074 ≤ last := by omega
  have l3 : last ≤ (E : Int) - 1023 - 52 := by omega
  have hk1 : Toward.even.cut s (mag <<< (place - last).toNat) (last - place).toNat ≤ 2 ^ ((E : Int) - 1023 - last).toNat := by
    refine cut_le ?_
    rw [Nat.shiftLeft_eq, ← Nat.pow_add]
    by_cases c : last ≤ place
    · have : mag * 2 ^ (place - last).toNat ≤ 2 ^ ((E : Int) - 1023 - place).toNat * 2 ^ (place - last).toNat := Nat.mul_le_mul_right _ hm
      rw [← Nat.pow_add] at this
      refine Nat.le_trans this (Nat.pow_le_pow_right (by decide) (by omega))
    · rw [show (place - last).toNat = 0 by omega, Nat.pow_zero, Nat.mul_one]
      exact Nat.le_trans hm (Nat.pow_le_pow_right (by decide) (by omega))
  have hk2 : Toward.even.cut s (mag <<< (place - last).toNat) (last - place).toNat ≤ 2 ^ 53 := by
    refine cut_le ?_
    rw [Nat.shiftLeft_eq, ← Nat.pow_add]
    have : mag * 2 ^ (place - last).toNat ≤ 2 ^ (L + 1) * 2 ^ (place - last).toNat := Nat.mul_le_mul_right _ (Nat.le_of_lt hL2)
    rw [← Nat.pow_add] at this
    exact Nat.le_trans this (Nat.pow_le_pow_right (by decide) (by omega))
  have hr : (last - -1074).toNat * 2 ^ 52 + Toward.even.cut s (mag <<< (place - last).toNat) (last - place).toNat ≤ E * 2 ^ 52 := by
    by_cases c : last = (E : Int) - 1023 - 52
    · rw [c] at hk1 ⊢
      rw [show ((E : Int) - 1023 - ((E : Int) - 1023 - 52)).toNat = 52 by omega] at hk1
      rw [show ((E : Int) - 1023 - 52 - -1074).toNat = E - 1 by omega]
      have : (E - 1) * 2 ^ 52 + 2 ^ 52 = E * 2 ^ 52 := by rw [← Nat.succ_mul]; congr 1; omega
      omega
    · have a1 : (last - -1074).toNat + 2 ≤ E := by omega
      have := Nat.mul_le_mul_right (2 ^ 52) a1
      rw [Nat.add_mul] at this
      omega
  show double.word s (min ((last - -1074).toNat * 2 ^ 52 + Toward.even.cut s (mag <<< (place - last).toNat) (last - place).toNat) (2047 * 2 ^ 52)) % 2 ^ 63 ≤ E * 2 ^ 52
  generalize (last - -1074).toNat * 2 ^ 52 + Toward.even.cut s (mag <<< (place - last).toNat) (last - place).toNat = r at hr ⊢
  have hr2 := Nat.le_trans (Nat.min_le_left r (2047 * 2 ^ 52)) hr
  have hr3 := Nat.min_le_right r (2047 * 2 ^ 52)
  generalize min r (2047 * 2 ^ 52) = q at *
  unfold Format.word
  rw [e1]
  have hq : q < 2 ^ 63 := by omega
  split
  · rw [Nat.add_mod_left, Nat.mod_eq_of_lt hq]; exact hr2
  · rw [Nat.mod_eq_of_lt hq]; exact hr2
theorem signed_abs (s : Bool) (m u : Nat) : (signed s m u).natAbs = m * 2 ^ u := by
  unfold signed
  rw [Nat.shiftLeft_eq]
  cases s <;> simp [Int.natAbs_mul, Int.natAbs_pow]
theorem le2_scale {m : Nat} {i e base : Int} (h : Le2 m i e) (hb : base ≤ i) (he : 0 ≤ e - base) : m * 2 ^ (i - base).toNat ≤ 2 ^ (e - base).toNat := by
  rcases h with rfl | ⟨h1, h2⟩
  · rw [Nat.zero_mul]; exact Nat.zero_le _
  · have := Nat.mul_le_mul_right (2 ^ (i - base).toNat) h2
    rw [← Nat.pow_add] at this
    exact Nat.le_trans this (Nat.pow_le_pow_right (by decide) (by omega))
theorem sum_bd {E a : Nat} {d : Datum} (h1 : 1 ≤ E) (h2 : E + 1 ≤ 2046) (ha : ∃ s m p, double.read a = .number s m p ∧ -1074 ≤ p ∧ Le2 m p ((E : Int) - 1023)) (hb : ∃ s m p, d = .number s m p ∧ -1074 ≤ p ∧ Le2 m p ((E : Int) - 1023)) : ∃ r, ((double.read a).sum d).map double.write = some r ∧ r % 2 ^ 63 ≤ (E + 1) * 2 ^ 52 := by
  obtain ⟨s, m, i, ea, hi, ha⟩ := ha
  obtain ⟨t, n, j, rfl, hj, hb⟩ := hb
  rw [ea]
  refine ⟨_, rfl, ?_⟩
  refine nearest_bd (by omega) h2 ?_
  by_cases hz : (signed s m (i - min i j).toNat + signed t n (j - min i j).toNat).natAbs = 0
  · exact .inl hz
  right
  -- the least place is not above 2^e
  have hle := Int.natAbs_add_le (signed s m (i - min i j).toNat) (signed t n (j - min i j).toNat)
  rw [signed_abs, signed_abs] at hle
  by_cases hb0 : 0 ≤ (E : Int) - 1023 - min i j
  · have g1 := le2_scale ha (Int.min_le_left i j) hb0
    have g2 := le2_scale hb (Int.min_le_right i j) hb0
    refine ⟨by omega, ?_⟩
    rw [show ((E + 1 : Nat) : Int) - 1023 - min i j = ((E : Int) - 1023 - min i j) + 1 by omega, show (((E : Int) - 1023 - min i j) + 1).toNat = ((E : Int) - 1023 - min i j).toNat + 1 by omega, Nat.pow_succ]
    omega
  · exfalso
    have z1 : m = 0 := ha.resolve_right fun h => by have := Int.min_le_left i j; omega
    have z2 : n = 0 := hb.resolve_right fun h => by have := Int.min_le_right i j; omega
    subst z1 z2
    simp only [Nat.zero_mul] at hle
    omega
theorem Bd.num {E : Nat} {x : Fl} (h : Bd E x) (h1 : 1 ≤ E) (h2 : E ≤ 2046) : ∃ b, x = some b ∧ ∃ s m p, double.read b = .number s m p ∧ -1074 ≤ p ∧ m < 2 ^ 53 ∧ Le2 m p ((E : Int) - 1023) := by
  obtain ⟨b, e, h⟩ := h
  exact ⟨b, e, read_bd h1 h2 h⟩
theorem Bd.add {E : Nat} {x y : Fl} (h : Bd E x) (g : Bd E y) (h1 : 1 ≤ E) (h2 : E + 1 ≤ 2046) : Bd (E + 1) (fadd x y) := by
  obtain ⟨a, rfl, s, m, p, e1, e2, _, e3⟩ := h.num h1 (by omega)
  obtain ⟨b, rfl, t, n, q, f1, f2, _, f3⟩ := g.num h1 (by omega)
  exact sum_bd h1 h2 ⟨s, m, p, e1, e2, e3⟩ ⟨t, n, q, f1, f2, f3⟩
theorem Bd.sub {E : Nat} {x y : Fl} (h : Bd E x) (g : Bd E y) (h1 : 1 ≤ E) (h2 : E + 1 ≤ 2046) : Bd (E + 1) (fsub x y) := by
  obtain ⟨a, rfl, s, m, p, e1, e2, _, e3⟩ := h.num h1 (by omega)
  obtain ⟨b, rfl, t, n, q, f1, f2, _, f3⟩ := g.num h1 (by omega)
  exact sum_bd (d := (double.read b).opposite) h1 h2 ⟨s, m, p, e1, e2, e3⟩ ⟨!t, n, q, by rw [f1]; rfl, f2, f3⟩
theorem Bd.neg {E : Nat} {x : Fl} (h : Bd E x) : Bd E (fneg x) := by
  obtain ⟨b, rfl, h⟩ := h
  exact ⟨_, rfl, by rw [xor_mod]; exact h⟩
theorem Bd.mul {E F : Nat} {x y : Fl} (h : Bd E x) (g : Bd F y) (h1 : 1 ≤ E) (g1 : 1 ≤ F) (h2 : 1024 ≤ E + F) (h3 : E ≤ 2046) (g3 : F ≤ 2046) (h4 : E + F - 1023 ≤ 2046) : Bd (E + F - 1023) (fmul x y) := by
  obtain ⟨a, rfl, s, m, i, e1, e2, _, e3⟩ := h.num h1 h3
  obtain ⟨b, rfl, t, n, j, f1, f2, _, f3⟩ := g.num g1 g3
  refine ⟨_, (by show ((double.read a).product (double.read b)).map double.write = _; rw [e1, f1]; rfl), ?_⟩
  refine nearest_bd (by omega) h4 ?_
  rcases e3 with rfl | ⟨e3, e4⟩
  · exact .inl (Nat.zero_mul _)
  rcases f3 with rfl | ⟨f3, f4⟩
  · exact .inl (Nat.mul_zero _)
  refine .inr ⟨by omega, ?_⟩
  have := Nat.mul_le_mul e4 f4
  rw [← Nat.pow_add] at this
  exact Nat.le_trans this (Nat.pow_le_pow_right (by decide) (by omega))
theorem Bd.quo {E f N : Nat} {x : Fl} (h : Bd E x) (hN : 2 ^ f ≤ N) (hN2 : N < 2 ^ 53) (h1 : f + 1 ≤ E) (h2 : E ≤ 2046) (h3 : E - f + 1 ≤ 2046) : Bd (E - f + 1) (fquo x (fi (N : Int))) := by
  have hN0 : N ≠ 0 := by have := Nat.two_pow_pos f; omega
  have hs : Sm (N : Int) := by unfold Sm; simpa using hN2
  obtain ⟨sg, hy, hsg⟩ := Wh.cn_int hs
  obtain ⟨k, e1, e2, e3⟩ := read_wd sg (c := N) hN2
  obtain ⟨a, rfl, s, m, i, a1, a2, a5, a3⟩ := h.num (by omega) h2
  have hy2 : fi (N : Int) = some (wd sg N) := by rw [hy]; simp
  rw [hy2]
  have hnz : ¬ N * 2 ^ k = 0 := Nat.mul_ne_zero hN0 (by have := Nat.two_pow_pos k; omega)
  refine ⟨_, (by show ((double.read a).quotient (double.fractionBits + 2) (double.read (wd sg N))).map double.write = _; rw [a1, e1]; exact congrArg (Option.map double.write) (if_neg hnz)), ?_⟩
  refine nearest_bd (by omega) (by omega) ?_
  by_cases h0 : m = 0
  · subst h0; exact .inl (by simp)
  obtain ⟨b1, b2⟩ := a3.resolve_left h0
  right
  have e52 : double.fractionBits = 52 := rfl
  rw [e52]
  have hlm : m.log2 ≤ 52 := by
    have : m.log2 < 53 := (Nat.log2_lt h0).2 a5
    omega
  generalize hmore : 52 + 2 + (N * 2 ^ k).log2 - m.log2 = more
  have hD : (m <<< more) = m * 2 ^ more := Nat.shiftLeft_eq ..
  have hlow : 2 ^ f * 2 ^ k ≤ m * 2 ^ more := by
    have l1 : 2 ^ m.log2 ≤ m := Nat.log2_self_le h0
    have l2 : N * 2 ^ k < 2 ^ ((N * 2 ^ k).log2 + 1) := Nat.lt_log2_self
    have l3 := Nat.mul_le_mul_right (2 ^ more) l1
    rw [← Nat.pow_add] at l3
    have l4 : 2 ^ ((N * 2 ^ k).log2 + 1) ≤ 2 ^ (m.log2 + more) := Nat.pow_le_pow_right (by decide) (by omega)
    have l5 := Nat.mul_le_mul_right (2 ^ k) hN
    omega
  have hup : m * 2 ^ more ≤ 2 ^ (((E : Int) - 1023 - i).toNat + more) := by
    rw [Nat.pow_add]; exact Nat.mul_le_mul_right _ b2
  have hX : f + k ≤ ((E : Int) - 1023 - i).toNat + more := by
    rw [← Nat.pow_add] at hlow
    exact (Nat.pow_le_pow_iff_right (by decide : 1 < 2)).1 (Nat.le_trans hlow hup)
  have hq : m * 2 ^ more / (N * 2 ^ k) ≤ 2 ^ (((E : Int) - 1023 - i).toNat + more - (f + k)) := by
    refine Nat.div_le_of_le_mul ?_
    refine Nat.le_trans hup ?_
    have l5 : 2 ^ (f + k) ≤ N * 2 ^ k := by rw [Nat.pow_add]; exact Nat.mul_le_mul_right _ hN
    have l6 := Nat.mul_le_mul_right (2 ^ (((E : Int) - 1023 - i).toNat + more - (f + k))) l5
    rw [← Nat.pow_add, show f + k + (((E : Int) - 1023 - i).toNat + more - (f + k)) = ((E : Int) - 1023 - i).toNat + more by omega] at l6
    exact l6
  rw [hD]
  have hp := Nat.two_pow_pos (((E : Int) - 1023 - i).toNat + more - (f + k))
  have hb : ∀ b : Bool, b.toNat ≤ 1 := fun b => by cases b <;> decide
  have hb1 := hb (m * 2 ^ more % (N * 2 ^ k) != 0)
  refine ⟨by omega, ?_⟩
  have : 2 ^ (((E - f + 1 : Nat) : Int) - 1023 - (i - -(k : Int) - (more : Int) - 1)).toNat = 4 * 2 ^ (((E : Int) - 1023 - i).toNat + more - (f + k)) := by
    rw [show (((E - f + 1 : Nat) : Int) - 1023 - (i - -(k : Int) - (more : Int) - 1)).toNat = ((E : Int) - 1023 - i).toNat + more - (f + k) + 2 by omega, Nat.pow_add, Nat.mul_comm]
  rw [this]
  omega
theorem Bd.whole {f r : Nat} (h : r ≤ 2 ^ f) (hf : f ≤ 1000) : Bd (f + 1023) (fi (r : Int)) := by
  have e : fi (r : Int) = cn (double.nearest (decide ((r : Int) < 0)) r 0) := rfl
  rw [e]
  have hb := nearest_bd (s := decide ((r : Int) < 0)) (mag := r) (E := f + 1023) (place := 0) (by omega) (by omega) (.inr ⟨by omega, by rw [show (((f + 1023 : Nat) : Int) - 1023 - 0).toNat = f by omega]; exact h⟩)
  refine ⟨double.nearest (decide ((r : Int) < 0)) r 0, ?_, hb⟩
  rw [cn_eq, if_neg]
  have : (f + 1023) * 2 ^ 52 ≤ 2023 * 2 ^ 52 := Nat.mul_le_mul_right _ (by omega)
  omega
def cofE : Nat → Nat
  | 8 => 980
  | 7 => 988
  | 6 => 996
  | 5 => 1003
  | 4 => 1009
  | 3 => 1015
  | 2 => 1020
  | 1 => 1023
  | _ => 1024
set_option maxRecDepth 100000 in
theorem cof_bd : ((List.range 2).all fun f => (List.range 9).all fun i => bdB (cofE i) (cofL f i)) = true := by kernel_rfl
theorem cofL_bd {f i : Nat} (hf : f < 2) (hi : i < 9) : Bd (cofE i) (cofL f i) :=
  Bd.of (List.all_eq_true.1 (List.all_eq_true.1 cof_bd f (List.mem_range.2 hf)) i (List.mem_range.2 hi))
theorem horn_next {f j E F : Nat} {y : Fl} (hf : f < 2) (hj : j < 8) (hy : Bd 1027 y) (h : Bd E (hornP f y j)) (hE : 1 ≤ E) (hE2 : E + 4 ≤ F) (hc : cofE (7 - j) ≤ F) (hF : F + 1 ≤ 2046) : Bd (F + 1) (hornP f y (j + 1)) := by
  have hm := hy.mul h (by decide) hE (by omega) (by decide) (by omega) (by omega)
  exact ((cofL_bd hf (by omega)).mono hc).sub (hm.mono (by omega)) (by omega) hF
theorem horn_bd {f : Nat} {y : Fl} (hf : f < 2) (hy : Bd 1027 y) : Bd 1032 (hornF f y) := by
  have p0 : Bd 980 (hornP f y 0) := cofL_bd (i := 8) hf (by decide)
  have p1 := horn_next (F := 988) hf (by decide) hy p0 (by decide) (by decide) (by decide) (by decide)
  have p2 := horn_next (F := 996) hf (by decide) hy p1 (by decide) (by decide) (by decide) (by decide)
  have p3 := horn_next (F := 1003) hf (by decide) hy p2 (by decide) (by decide) (by decide) (by decide)
  have p4 := horn_next (F := 1009) hf (by decide) hy p3 (by decide) (by decide) (by decide) (by decide)
  have p5 := horn_next (F := 1015) hf (by decide) hy p4 (by decide) (by decide) (by decide) (by decide)
  have p6 := horn_next (F := 1020) hf (by decide) hy p5 (by decide) (by decide) (by decide) (by decide)
  have p7 := horn_next (F := 1026) hf (by decide) hy p6 (by decide) (by decide) (by decide) (by decide)
  exact horn_next (F := 1031) hf (by decide) hy p7 (by decide) (by decide) (by decide) (by decide)
theorem bd_one : Bd 1024 one := Bd.of (by kernel_rfl)
theorem bd_zero : Bd 1024 fl0 := Bd.of (by kernel_rfl)
theorem eigh_bd {r N : Nat} (h : 8 * r ≤ N) (hN : N < 2 ^ 40) : KC (Bd 1034) (eighF (r : Int) (N : Int)) := by
  unfold eighF
  by_cases h0 : (r : Int) = 0
  · rw [if_pos h0]; exact ⟨bd_one.mono (by decide), bd_zero.mono (by decide)⟩
  rw [if_neg h0]
  by_cases h8 : 8 * (r : Int) = N
  · rw [if_pos h8]; exact ⟨(Bd.of (E := 1024) (by kernel_rfl)).mono (by decide), (Bd.of (E := 1024) (by kernel_rfl)).mono (by decide)⟩
  rw [if_neg h8]
  have hr : 1 ≤ r := by omega
  have hN0 : N ≠ 0 := by omega
  have l1 : 2 ^ N.log2 ≤ N := Nat.log2_self_le hN0
  have l2 : N < 2 ^ (N.log2 + 1) := Nat.lt_log2_self
  have l3 : N.log2 < 40 := (Nat.log2_lt hN0).2 hN
  have l4 : 3 ≤ N.log2 := (Nat.le_log2 hN0).2 (by omega)
  have hrb : r ≤ 2 ^ (N.log2 - 2) := by
    have : 2 ^ (N.log2 + 1) = 8 * 2 ^ (N.log2 - 2) := by
      rw [show N.log2 + 1 = N.log2 - 2 + 3 by omega, Nat.pow_add, Nat.mul_comm]
    omega
  have b1 := Bd.whole hrb (by omega)
  have b2 : Bd 1026 (cn twoPiB) := Bd.of (by kernel_rfl)
  have b3 := b2.mul b1 (by decide) (by omega) (by omega) (by decide) (by omega) (by omega)
  have b4 := b3.quo (f := N.log2) l1 (by omega) (by omega) (by omega) (by omega)
  have b5 : Bd 1025 (fquo (fmul (cn twoPiB) (fi r)) (fi N)) := b4.mono (by omega)
  have b6 := b5.mul b5 (by decide) (by decide) (by decide) (by decide) (by decide) (by decide)
  have b7 := horn_bd (f := 0) (by decide) (b6.mono (by decide))
  have b8 := horn_bd (f := 1) (by decide) (b6.mono (by decide))
  exact ⟨b7.mono (by decide), (b5.mul b8 (by decide) (by decide) (by decide) (by decide) (by decide) (by decide)).mono (by decide)⟩
theorem tur_bd {E : Nat} {x : Cx} (h : KC (Bd E) x) : ∀ q, KC (Bd E) (turF x q)
  | 0 => h
  | q + 1 => ⟨(tur_bd h q).2.neg, (tur_bd h q).1⟩
theorem pz_bd {E : Nat} {x : Fl} (h : Bd E x) : Bd E (pzF x) := by
  obtain ⟨b, rfl, h⟩ := h
  refine ⟨_, rfl, ?_⟩
  unfold pzB
  split
  · simp
  · exact h
theorem pair_bd {n k : Nat} (hn : 1 ≤ n) (hn2 : n ≤ 4194304) : KC (Bd 1034) (pairF n k) := by
  have hm := Nat.mod_lt (4 * k) (show 0 < n by omega)
  have h0 : KC (Bd 1034) (pair0 n k) := by
    unfold pair0
    split
    · rename_i h
      exact eigh_bd (by omega) (by omega)
    · rename_i h
      have := eigh_bd (r := n - 4 * k % n) (N := 4 * n) (by omega) (by omega)
      rw [show ((n - 4 * k % n : Nat) : Int) = (n : Int) - ((4 * k % n : Nat) : Int) by omega] at this
      exact ⟨this.2, this.1⟩
  exact ⟨pz_bd (tur_bd h0 _).1, pz_bd (tur_bd h0 _).2⟩
theorem root_bd {n k : Nat} (hn : 1 ≤ n) (hn2 : n ≤ 4194304) : KC (Bd 1034) (rootF n k) := ⟨(pair_bd hn hn2).1, pz_bd (pair_bd hn hn2).2.neg⟩
end Go.Tm
