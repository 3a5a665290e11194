/- Lemmas of this claim, joined by program. Whole numbers as floats: sums, differences, products and quotients that are whole are exact. A product by one and a quotient by one are exact, for every float. The document's roots and cosine sums in plain Lean: the same floats as the program's. Plans of any length; cosine transforms in plain Lean. Relations of floats that go through every transform, in plain Lean. Walks of functions: the document's roots of unity, products, sums, chirps. Walks of functions: the document's butterflies (watched). Walks of functions: the document's length of an order. Conditions: each lemma names its own. -/
import Derived.Test.YtpfglkohcfjelaaGreatDoorJ08
import Derived.Test.YtpfglkohcfjelaaGreatDoorJ09
import Derived.Test.YtpfglkohcfjelaaGreatDoorJ11
import Derived.Test.YtpfglkohcfjelaaGreatDoorJ12
import Derived.Test.YtpfglkohcfjelaaGreatDoorJ13
set_option linter.all false
namespace Go.Tm
open Ieee
end Go.Tm
namespace Go.Tm
open Ieee
end Go.Tm
namespace Go.Tm
def facR : Nat → Fl
 | 0 => one
 | 1 => one
 | m + 2 => fmul (facR (m + 1)) (fi ((m + 2 : Nat) : Int))
theorem facR_eq : ∀ m, facR m = facF m
 | 0 => rfl
 | 1 => by kernel_rfl
 | m + 2 => by rw [facR, facR_eq (m + 1)]; rfl
theorem one_quo : fquo one one = one := by kernel_rfl
theorem cof_eq (first k : Nat) : fquo one (facR (2 * k + first)) = cofL first k := by
 unfold cofL
 by_cases c : first = 0 ∧ k = 0
 · rw [if_pos c, c.1, c.2]; exact one_quo
 · rw [if_neg c, facR_eq]
theorem fneg_fneg (x : Fl) : fneg (fneg x) = x := by
 cases x with
 | none => rfl
 | some b => exact congrArg some (by show (b ^^^ 2 ^ 63) ^^^ 2 ^ 63 = b; rw [Nat.xor_assoc, Nat.xor_self, Nat.xor_zero])
theorem tur_two (x : Cx) : turF x 2 = (fneg x.1, fneg x.2) := rfl
theorem tur_three (x : Cx) : turF x 3 = (x.2, fneg x.1) := by
 show (fneg (fneg x.2), fneg x.1) = _
 rw [fneg_fneg]
end Go.Tm
namespace Go.Tm
open Go.RowKit Go.Proofs Go.Proofs.Tryz
abbrev UV (i : Int) : Value := .int .u64 i
theorem SlR.getU {S : Nat → Prop} {w : World} {A : Option Addr} {l : Nat} {xs : List Int} (h : SlR S w A l 1 (xs.map UV)) {i : Int} (h0 : 0 ≤ i) (h1 : i < l) : w.cell? ((sAddr A).add (i.toNat * 1)) = some (.int .u64 (xs.getD i.toNat 0)) := SlR.get (f := UV) h 0 h0 h1
abbrev XF (xs : List Nat) : Nat → Fl := fun i => cn (xs.getD i 0)
def bitF (b : Nat) : Nat := if 2 ^ 52 * (2 ^ 11 - 1) < b % 2 ^ 63 then 9221120237041090560 else b
theorem bitF_same {a b : Nat} (h : cn a = cn b) : bitF a = bitF b := by
 rw [cn_eq, cn_eq] at h
 unfold bitF
 by_cases p : 2 ^ 52 * (2 ^ 11 - 1) < a % 2 ^ 63
 ·
  by_cases q : 2 ^ 52 * (2 ^ 11 - 1) < b % 2 ^ 63
  · rw [if_pos p, if_pos q]
  · rw [if_pos p, if_neg q] at h; cases h
 ·
  by_cases q : 2 ^ 52 * (2 ^ 11 - 1) < b % 2 ^ 63
  · rw [if_neg p, if_pos q] at h; cases h
  · rw [if_neg p, if_neg q] at h; injection h with h; subst h; rfl
section
variable {P : Program} {n : Fr} {k : K} {w : World} {d : Option Tmp} {ty : TypeId} {pos : String} {aft : Array Edge} {g : Option (Nat × Bool)}
theorem Rn.fromf {f : FuncId} {fn : Func} {x : Operand} {ts : Array TypeId} {m : Nat} (hf : P.funcs[f]? = some fn) (hname : (fn.name == "runtime.NumGoroutine") = false) (hb : fn.body.isNone = true) (hn : Extern.findNext fn = none)
  (he : Extern.find fn = some Extern.MathFloatBits.float64bits) (hx : ev k x = some (.float .f64 m)) :
  Rn P n k w { dst := d, op := .call { callee := .value (.func f), args := #[x], argTypes := ts }, type := ty, pos := pos, after := aft, guard := g } (.int .u64 m) :=
 fun ac ha => by
  have h1 : ¬ fn.name = "runtime.NumGoroutine" := by simpa using hname
  have h2 : fn.body = none := by simpa using hb
  have h3 : ac.eval (.func f) = .func (.func f) #[] #[] := rfl
  have h4 : (Extern.MathFloatBits.float64bits #[.float .f64 m]).run P w = .ok (.int .u64 m) w := rfl
  simp [execOp, resolve, h3, Deferred.ofValue, invoke, callFunc, hf, h1, h2, hn, he, ha.eval hx, h4]
end
theorem feq_const {a b : Nat} (h : cn a = cn b) (hb : cn b = some b) (he : (Ieee.double.order b b == some .eq) = true) : (Ieee.double.order a b == some .eq) = true := by
 rw [hb] at h
 unfold cn at h
 split at h
 · cases h
 · injection h with h; rw [h]; exact he
theorem bd_nil (n : Int) : BdOk ({ ln := n, cl := 0, i0 := 0, ou := n, steps := [], acts := 0, fr := 0 } : Bld) := ⟨Int.le_refl _, Int.le_refl _, by simp only; omega, by simp, Int.le_refl _, by simp only; omega⟩
structure BldG (n : Nat) (b : Bld) : Prop where
  ln : b.ln = n
  ok : PrgG b b.cl.toNat
  okb : okB b
  ne : 1 ≤ b.steps.length
  ac : 1 ≤ cntS b.steps
theorem bldG_of {o : Ord} {n : Nat} (h : o.len ≠ 0) (hf : (buildM o).full = false) (hn : o.len = n) : BldG n (buildM o) := by
 have go := GO.of_len h
 have hl := len_bd o
 have h00 := bd_nil o.len
 have h0 : PB ({ ln := o.len, cl := 0, i0 := 0, ou := o.len, steps := [], acts := 0, fr := 0 } : Bld) := ⟨h00, fun s hs => (by cases hs), rfl⟩
 have hb : PB (bld0 o.len) := h0.region (by omega) (by show (0 : Int) + 2 * o.len ≤ 400000; omega)
 have hfr : (bld0 o.len).fr = 2 * o.len := by show (0 : Int) + 2 * o.len = _; omega
 have hcl : 2 * o.len ≤ (bld0 o.len).cl := by have := region_ge ({ ln := o.len, cl := 0, i0 := 0, ou := o.len, steps := [], acts := 0, fr := 0 } : Bld) (2 * o.len); show 2 * o.len ≤ (Bld.region _ (2 * o.len)).cl; simp only at this; omega
 have hx : InsOk ⟨0, 1, o.len⟩ (sl o) (bld0 o.len).fr := by
  rw [← len_sl h, hfr]
  exact ⟨Int.le_refl _, Int.le_refl _, by show (1 : Int) ≤ 262144; decide, by show 0 + (o.len - 1) * 1 < 2 * o.len; omega, by show 0 ≤ o.len; omega, by show o.len + o.len ≤ 2 * o.len; omega, .inl (by show 0 + (o.len - 1) * 1 < o.len; omega)⟩
 have pb : PB (buildM o) := deepG go _ _ hb hx
 have hd : Hd3 (bld0 o.len) (buildM o) := deepM_hd go _ _
 have hne : 1 ≤ (buildM o).steps.length := deepM_len go _ _ hf
 have ff := full_false hf
 have kp : Kp (bld0 o.len) (buildM o) := deepM_keeps go _ _ hb.ok
 have hc := kp.cl
 have e1 : (buildM o).ln = o.len := hd.ln
 have e2 : (buildM o).i0 = 0 := hd.i0
 have e3 : (buildM o).ou = o.len := hd.ou
 have hcn : ∀ s ∈ (buildM o).steps, 1 ≤ s.count := fun s hs => (pb.st s hs).st.cnt.1
 have hac : 1 ≤ cntS (buildM o).steps := by
  have h1 := cntG_pos hcn
  by_cases h2 : cntS (buildM o).steps = 0
  · have := h1.2 h2; rw [this] at hne; simp at hne
  · omega
 have hs := pb.ac
 refine ⟨by rw [e1, hn], ⟨by omega, by omega, by omega, by omega, by omega, pb.st, ff.1, by omega⟩, ⟨ff.1, ?_, fun s hs => (pb.st s hs).form⟩, hne, hac⟩
 intro x hx
 simp only [Bld.hd, List.mem_cons, List.not_mem_nil, or_false] at hx
 rcases hx with rfl | rfl | rfl | rfl <;> omega
theorem best_ex (n : Nat) : ∃ b : Bld, ∀ r, Best PU n r → buildM r.1 = b := by
 by_cases h : ∃ r, Best PU n r
 ·
  obtain ⟨r0, h0⟩ := h
  exact ⟨buildM r0.1, fun r hr => by rw [hr.unique h0]⟩
 · exact ⟨⟨0, 0, 0, 0, [], 0, 0⟩, fun r hr => absurd ⟨r, hr⟩ h⟩
noncomputable def bOf (n : Nat) : Bld := Classical.choose (best_ex n)
theorem bOf_spec {n : Nat} {r : Ord × Int} (h : Best PU n r) : buildM r.1 = bOf n := Classical.choose_spec (best_ex n) r h
theorem plan_fwd {o : Ord} (h : o.len ≠ 0) (hf : (buildM o).full = false) {zs : List Cx} (hz : zs.length = o.len.toNat) : fwdG (buildM o) zs = (List.range o.len.toNat).map (trM o (gd zs)) := by
 have go := GO.of_len h
 have hl := len_bd o
 have hs := len_sl h
 obtain ⟨n, hn⟩ : ∃ n : Nat, o.len = n := ⟨o.len.toNat, by omega⟩
 have h0 := bd_nil o.len
 have hb : BdOk (bld0 o.len) := h0.region (by omega) (by show (0 : Int) + 2 * o.len ≤ 400000; omega)
 have hfr : (bld0 o.len).fr = ((2 * n : Nat) : Int) := by show (0 : Int) + 2 * o.len = _; omega
 have hx : InsOk ⟨((0 : Nat) : Int), ((1 : Nat) : Int), (n : Nat)⟩ (sl o) (bld0 o.len).fr := by
  rw [← hs, hfr, hn]
  exact ⟨Int.le_refl _, Int.le_refl _, by simp only; omega, by simp only; omega, by simp only; omega, by simp only; omega, .inl (by simp only; omega)⟩
 have e : buildM o = deepM o ⟨((0 : Nat) : Int), ((1 : Nat) : Int), (n : Nat)⟩ (bld0 o.len) := by rw [← hn]; rfl
 obtain ⟨_, hc, L, hL, hrun⟩ := deep_tr go 0 1 n (bld0 o.len) hb hx (by rw [← e]; exact hf)
 have hd : Hd3 (bld0 o.len) (buildM o) := deepM_hd go _ _
 have e1 : (buildM o).ln = n := hd.ln.trans hn
 have e2 : (buildM o).i0 = 0 := hd.i0
 have e3 : (buildM o).ou = n := hd.ou.trans hn
 rw [← e] at hL hc hrun
 have hL2 : (buildM o).steps = L := hL
 have hcl : 2 * n ≤ (buildM o).cl.toNat := by
  have : (bld0 o.len).cl = if (0 : Int) + 2 * o.len > 0 then 0 + 2 * o.len else 0 := rfl
  rw [this] at hc
  split at hc <;> omega
 rw [hn, Int.toNat_natCast] at hz
 have e4 : loadC (buildM o).cl.toNat 0 zs = zs ++ List.replicate ((buildM o).cl.toNat - n) z0 := by
  simp [loadC, hz]
 obtain ⟨g1, g2, -⟩ := hrun (loadC (buildM o).cl.toNat 0 zs) (by rw [e4, List.length_append, List.length_replicate, hz]; omega)
 have hlen : (loadC (buildM o).cl.toNat 0 zs).length = (buildM o).cl.toNat := by rw [e4, List.length_append, List.length_replicate, hz]; omega
 rw [hlen] at g1
 unfold fwdG
 rw [hL2, e1, e2, e3, hn, Int.toNat_natCast, show (0 : Int).toNat = 0 from rfl]
 rw [← hs, hn, Int.toNat_natCast] at g2
 apply List.ext_getElem
 · simp [g1]; omega
 ·
  intro i hi hi2
  simp only [List.length_map, List.length_range] at hi2
  have h3 := g2 i hi2
  simp only [List.getElem_take, List.getElem_drop, List.getElem_map, List.getElem_range]
  have h4 : gd (runG L (loadC (buildM o).cl.toNat 0 zs)) (n + i) = (runG L (loadC (buildM o).cl.toNat 0 zs))[n + i]'(by rw [g1]; omega) := by
   simp [gd, List.getD, List.getElem?_eq_getElem (show n + i < (runG L (loadC (buildM o).cl.toNat 0 zs)).length by rw [g1]; omega)]
  rw [← h4, h3]
  have hloc := trM_loc go
  rw [← hs, hn, Int.toNat_natCast] at hloc
  refine hloc _ _ (fun j hj => ?_) i
  rw [Nat.zero_add, Nat.mul_one, e4]
  simp only [gd, List.getD]
  rw [List.getElem?_append_left (by omega)]
theorem ord_ex (n : Nat) : ∃ o : Ord, ∀ r, Best PU n r → r.1 = o := by
 by_cases h : ∃ r, Best PU n r
 ·
  obtain ⟨r0, h0⟩ := h
  exact ⟨r0.1, fun r hr => by rw [hr.unique h0]⟩
 · exact ⟨.mk 0 0 [], fun r hr => absurd ⟨r, hr⟩ h⟩
noncomputable def oOf (n : Nat) : Ord := Classical.choose (ord_ex n)
theorem oOf_spec {n : Nat} {r : Ord × Int} (h : Best PU n r) : r.1 = oOf n := Classical.choose_spec (ord_ex n) r h
structure UsG (n : Nat) : Prop where
  ex : ∃ r, Best PU n r ∧ r.1.len = n
  b : BldG n (bOf n)
  fwd : ∀ zs : List Cx, zs.length = n → fwdG (bOf n) zs = (List.range n).map (trM (oOf n) (gd zs))
theorem usG_of {n : Nat} (h1 : 1 ≤ n) {r : Ord × Int} (hr : Best PU n r) (hp : r.1.len = n ∧ (buildM r.1).full = false) : UsG n := by
 have hl : r.1.len.toNat = n := by rw [hp.1, Int.toNat_natCast]
 refine ⟨⟨r, hr, hp.1⟩, by rw [← bOf_spec hr]; exact bldG_of (by omega) hp.2 hp.1, fun zs hz => ?_⟩
 rw [← bOf_spec hr, ← oOf_spec hr]
 have := plan_fwd (o := r.1) (by rw [hp.1]; omega) hp.2 (zs := zs) (by rw [hl]; exact hz)
 rw [hl] at this
 exact this
theorem plan_NewG (n : Nat) (h1 : 1 ≤ n) (h2 : n ≤ 4096) (w : World) (st : StT w) (tab : TabB w.heap.size w) (hG : 24 ≤ w.heap.size) :
  Calls prog 13 #[Kg n] w (Ret fun v w' => ∃ p P, v = .tuple #[Kh p, .nilIface] ∧ PlnR w.heap.size w'.heap.size w' p P ∧ P.b = bOf n ∧ UsG n ∧ Ch No w w') := by
 have hp := hasP_all (n := n) (by omega) (by omega)
 refine (plan_New n (by omega) (by omega) hp w st tab hG).mono ?_
 rintro e w' ⟨v, rfl, p, rr, rfl, hr, h3, h4⟩
 exact ⟨_, O, p, _, O, h3, bOf_spec hr, usG_of h1 hr (hp rr hr), h4⟩
theorem p_ForwardN (lo hi p : Nat) (P : Pln) (SX : Nat → Prop) (X : Option Addr) (n xc : Nat) (ys : List CB) (w : World) (sx : SlR SX w X n 1 (ys.map cxV)) (hX : ∀ q, SX q → q < w.heap.size) (pl : PlnR lo hi w p P) (hh : hi ≤ w.heap.size) (hb : P.b = bOf n) (us : UsG n) (st : StT w) (hG : 24 ≤ w.heap.size) :
  Calls prog 15 #[Kh p, .slice X n xc] w (Ret fun v w' => ∃ r' A' c' zs, v = .tuple #[.slice A' n c', .nilIface] ∧ CR 33 w' r' A' n c' zs ∧ zs.map cx = fwdG (bOf n) (ys.map cx) ∧ w.heap.size < r' ∧ Ch No w w') := by
 have bg := us.b
 rw [← hb] at bg
 have := p_Forward lo hi p P SX X n xc ys w sx hX pl hh P.b.cl.toNat bg.ok bg.okb bg.ne (by rw [bg.ln]) st hG bg.ac
 rw [show P.b.ln.toNat = n by rw [bg.ln, Int.toNat_natCast], hb] at this
 exact this
theorem p_InverseN (lo hi p : Nat) (P : Pln) (SX : Nat → Prop) (X : Option Addr) (n xc : Nat) (ys : List CB) (w : World) (sx : SlR SX w X n 1 (ys.map cxV)) (hX : ∀ q, SX q → q < w.heap.size) (pl : PlnR lo hi w p P) (hh : hi ≤ w.heap.size) (hb : P.b = bOf n) (us : UsG n) (st : StT w) (hG : 24 ≤ w.heap.size) :
  Calls prog 16 #[Kh p, .slice X n xc] w (Ret fun v w' => ∃ r' A' c' zs, v = .tuple #[.slice A' n c', .nilIface] ∧ CR 33 w' r' A' n c' zs ∧ zs.map cx = invG (bOf n) (ys.map cx) ∧ w.heap.size < r' ∧ Ch No w w') := by
 have bg := us.b
 rw [← hb] at bg
 have := p_Inverse lo hi p P SX X n xc ys w sx hX pl hh P.b.cl.toNat bg.ok bg.okb bg.ne (by rw [bg.ln]) st hG bg.ac
 rw [show P.b.ln.toNat = n by rw [bg.ln, Int.toNat_natCast], hb] at this
 exact this
end Go.Tm
namespace Go.Tm
structure RelF (R : Fl → Fl → Prop) (K : Fl → Prop) : Prop where
  add : ∀ {x x' y y' : Fl}, R x x' → R y y' → R (fadd x y) (fadd x' y')
  sub : ∀ {x x' y y' : Fl}, R x x' → R y y' → R (fsub x y) (fsub x' y')
  mul : ∀ {x x' c : Fl}, R x x' → K c → R (fmul x c) (fmul x' c)
  quo : ∀ {x x' : Fl} {n : Int}, 1 ≤ n → n ≤ 16384 → R x x' → R (fquo x (fi n)) (fquo x' (fi n))
  neg : ∀ {x x' : Fl}, R x x' → R (fneg x) (fneg x')
  zero : R fl0 fl0
  cst : K (cn 4602678819172646912) ∧ K (cn 4605975682916830378) ∧ K (cn 4606741575090066687) ∧ K (cn 4603469518431672926) ∧ K (cn 4599238375200778576) ∧ K (cn 13828834233668859048)
section
variable {R : Fl → Fl → Prop} {K : Fl → Prop} (h : RelF R K)
include h
end
open Ieee
theorem xor_mod (b : Nat) : (b ^^^ 2 ^ 63) % 2 ^ 63 = b % 2 ^ 63 := by rw [Nat.xor_mod_two_pow]; simp
theorem xor_div (b : Nat) : (b ^^^ 2 ^ 63) / 2 ^ 63 = b / 2 ^ 63 ^^^ 1 := by rw [Nat.xor_div_two_pow]
theorem read_opp (b : Nat) : double.read (b ^^^ 2 ^ 63) = (double.read b).opposite := by
 have e1 : double.signWeight = 2 ^ 63 := rfl
 have e3 : ((b ^^^ 2 ^ 63) / 2 ^ 63 % 2 == 1) = !(b / 2 ^ 63 % 2 == 1) := by
  rw [xor_div]
  have : (b / 2 ^ 63 ^^^ 1) % 2 = (b / 2 ^ 63 % 2 ^^^ 1 % 2) := Nat.xor_mod_two_pow (n := 1)
  rw [this]
  rcases Nat.mod_two_eq_zero_or_one (b / 2 ^ 63) with h | h <;> rw [h] <;> rfl
 unfold Format.read
 simp only [e1, xor_mod, e3]
 split
 · rfl
 ·
  split
  · rfl
  · split <;> rfl
end Go.Tm
namespace Go.Tm
set_option maxRecDepth 100000
open Go.RowKit Go.Proofs Go.Proofs.Tryz
theorem facR_succ {m : Nat} {a f : Nat} (hm : 1 ≤ m) (hf : cn f = facR m) (fa : cn a = fop .mul (cn f) (fi ((m : Int) + 1))) : cn a = facR (m + 1) := by
 obtain ⟨i, rfl⟩ : ∃ i, m = i + 1 := ⟨m - 1, by omega⟩
 rw [fa, hf]; rfl
theorem cof_of {first m : Nat} {k : Int} {c f : Nat} (h0 : 0 ≤ k) (h1 : 1 ≤ m) (h2 : (m : Int) ≤ 2 * k + first ∨ m = 1) (h3 : 2 * k + first < (m : Int) + 1) (hf : cn f = facR m) (fc : cn c = fop .quo (cn 4607182418800017408) (cn f)) : cn c = cofL first k.toNat := by
 rw [← cof_eq, fc, hf]
 by_cases e : m = 2 * k.toNat + first
 · rw [← e]; rfl
 ·
  have e0 : 2 * k.toNat + first = 0 := by omega
  have e1 : m = 1 := by omega
  rw [e0, e1]; rfl
theorem horn_step {first : Nat} {k : Int} {y p c q r : Nat} (h0 : 0 ≤ k) (h8 : k < 8) (hp : cn p = hornP first (cn y) (7 - k).toNat) (hc : cn c = cofL first k.toNat) (fq : cn q = fop .mul (cn y) (cn p)) (fr : cn r = fop .sub (cn c) (cn q)) : cn r = hornP first (cn y) (7 - (k - 1)).toNat := by
 rw [show (7 - (k - 1)).toNat = (7 - k).toNat + 1 by omega, hornP, fr, fq, hp, hc, show 7 - (7 - k).toNat = k.toNat by omega]
theorem pz_yes {b : Nat} (h : (Ieee.double.order b 0 == some .eq) = true) : cn 0 = pzF (cn b) := by rw [← cn_pz, pzB, if_pos h]
theorem pz_no {b : Nat} (h : ¬ (Ieee.double.order b 0 == some .eq) = true) : cn b = pzF (cn b) := by rw [← cn_pz, pzB, if_neg h]
section
open Ieee
theorem order_opp0 (b : Nat) : (double.order (b ^^^ 2 ^ 63) 0 == some .eq) = (double.order b 0 == some .eq) := by
 have e0 : double.read 0 = .number false 0 (-1074) := rfl
 unfold Format.order
 rw [read_opp, e0]
 cases double.read b with
 | number s m i =>
  show ((some (compare (signed (!s) m _) (signed false 0 _))) == some Ordering.eq) = (some (compare (signed s m _) (signed false 0 _)) == some Ordering.eq)
  have h0 : ∀ k, signed false 0 k = 0 := fun k => by simp [signed]
  have h1 : ∀ k, signed (!s) m k = - signed s m k := fun k => by cases s <;> simp [signed]
  rw [h0, h1]
  have : ∀ z : Int, (compare (-z) 0 = .eq) = (compare z 0 = .eq) := fun z => by rw [Int.compare_eq_eq, Int.compare_eq_eq]; exact propext ⟨fun h => by omega, fun h => by omega⟩
  rw [Bool.eq_iff_iff]; simp only [beq_iff_eq, Option.some.injEq, this]
 | infinity s => cases s <;> rfl
 | nan s f => rfl
theorem root_yes {c s : Nat} {z : Cx} (hz : cx (c, s) = z) (h : (double.order s 0 == some .eq) = true) : cx (c, 0) = (z.1, pzF (fneg z.2)) := by
 subst hz
 show (cn c, cn 0) = (cn c, pzF (fneg (cn s)))
 rw [← cn_neg, ← cn_pz, pzB, if_pos (by rw [← h]; exact order_opp0 s)]
theorem root_no {c s : Nat} {z : Cx} (hz : cx (c, s) = z) (h : ¬ (double.order s 0 == some .eq) = true) : cx (c, Op.negFloat .f64 s) = (z.1, pzF (fneg z.2)) := by
 subst hz
 show (cn c, cn _) = (cn c, pzF (fneg (cn s)))
 rw [← cn_neg, ← cn_pz, pzB, if_neg (by rw [← order_opp0] at h; exact h)]
end
theorem LX.snoc {os : List CB} {x : Nat → Cx} {i a b : Nat} (h : ∀ m, m < i → cx (os.getD m (0, 0)) = x m) (hl : os.length = i) (hz : cx (a, b) = x i) (m : Nat) (hm : m < i + 1) : cx ((os ++ [(a, b)]).getD m (0, 0)) = x m := by
 rcases Nat.lt_or_ge m i with c | c
 ·
  have := h m c
  simp only [List.getD] at this ⊢
  rwa [List.getElem?_append_left (by omega)]
 ·
  obtain rfl : m = i := by omega
  subst hl
  simpa [List.getD] using hz
theorem inf33w99 : Inf prog 33 (.complex .f64 0 0) 1 16 := ⟨Tryz.t33, type33, rfl, rfl, rfl⟩
set_option maxHeartbeats 1000000 in
theorem ref07_series0 (y : Nat) (w : World) :
  Calls prog 236 #[.float .f64 y, Kg 0] w (Ret (fun v w' => ∃ b, v = .float .f64 b ∧ cn b = hornF 0 (cn y) ∧ Ch No w w')) := by
 refine Ku func236 O ntmps236 O (Kb (Ww O O (Wy ?_)))
 refine Ww O O (Wz (Kb (Ww O O (Qf ?_))))
 refine Qa (Qt (Kf (σ := Int × Nat) (fun (k, p) => [(0, .float .f64 y), (1, Kg 0), (5, .float .f64 p), (6, Kg k)]) (fun (k, p) w' => (-1 ≤ k ∧ k ≤ 8) ∧ (k < 8 → cn p = hornP 0 (cn y) (7 - k).toNat) ∧ w.heap.size ≤ w'.heap.size ∧ Ch (No) w w') (fun (k, p) => (k + 1).toNat) (8, 0) ?_ ?_))
 · exact ⟨⟨by omega, by omega⟩, (fun h => absurd h (by omega)), (Nat.le_refl _), (Ch.refl (No) w)⟩
 rintro ⟨k, p⟩ w1 ⟨hk, hp, hsz1, CH_1⟩
 refine Qe (Kb (Wu O O (Om (Ry O O) O (Ka (Qj O (fun hc1 => ?_) (fun hc1 => ?_))))))
 ·
  refine Qn (Qa (Qe (Qt (Kb (Ww O O (Qf ?_))))))
  refine Qa (Qe (Kb (Ww O O (Ka (Qt ?_)))))
  refine Kf (σ := Nat × Nat) (fun (m, f) => [(0, .float .f64 y), (1, Kg 0), (5, .float .f64 p), (6, Kg k), (7, .float .f64 f), (8, Kg ((m : Int) + 1))]) (fun (m, f) w' => (1 ≤ m ∧ ((m : Int) ≤ 2 * k + 0 ∨ m = 1)) ∧ cn f = facR m ∧ w1.heap.size ≤ w'.heap.size ∧ Ch (No) w w') (fun (m, f) => 20 - m) (1, 4607182418800017408) ?_ ?_
  · exact ⟨⟨by omega, .inr O⟩, (by rfl), (Nat.le_refl _), CH_1⟩
  rintro ⟨m, f⟩ w2 ⟨hm, hf, hsz2, CH_2⟩
  refine Qe (Kb (Wu O O (Wu O O ?_)))
  refine Om (Cy O O) O ?_
  refine Wu O O ?_
  refine Om (Cd O O) O ?_
  refine Om (Ro O O) O (Ka (Qj O (fun hc2 => ?_) (fun hc2 => ?_)))
  ·
   refine Qn (Qa (Qe (Qt (Qb (Wu O O (Wu O O (Om (Wb υ3 υ32 O) O ?_)))))))
   refine Oq (Cw (.inr (.inr (.inl O))) O O) O ?_
   rintro _ w3 ⟨r3, rfl, f3, c3⟩
   have z3 := c3.size
   refine Ww O O (Qf (Ql (Qa (Qb (Wu O O ?_)))))
   refine Om (Cd O O) O ?_
   refine Ww O O (Qf ?_)
   refine Ke (m + 1, _) ?_
   have CH_3 := CH_2.and c3
   exact ⟨⟨by omega, .inl (by omega)⟩, (facR_succ hm.1 hf f3), (by omega), CH_3⟩
  refine Cn (Qk (Qk (Qy (Qa (Kb (Wu O O ?_))))))
  refine Oq (Cw (.inr (.inr (.inr O))) O O) O ?_
  rintro _ w4 ⟨r4, rfl, f4, c4⟩
  have z4 := c4.size
  refine Ww O O (Wz (Kb (Wu O O (Om (Cg O O) O ?_))))
  refine Ka (Qj O (fun hc3 => ?_) (fun hc3 => ?_))
  ·
   refine Kb (Wu O O (Ww O O (Ka (Cn (Qk ?_)))))
   refine Qy (Qa (Qb (Wu O O ?_)))
   refine Om (Rg O O) O ?_
   refine Ww O O (Qf ?_)
   refine Ke (k - 1, _) ?_
   have CH_4 := CH_2.and c4
   exact ⟨⟨by omega, by omega⟩, fun _ => (by have h9 := cof_of (first := 0) (by omega) hm.1 (by omega) (by omega) hf f4; rw [show (7 - (k - 1)).toNat = 0 by omega, hornP, h9, show k.toNat = 8 by omega]), by omega, CH_4⟩
  refine Qn (Qa (Qb (Wu O O (Wu O O (Wu O O (Oq (Cw (.inr (.inr (.inl O))) O O) O ?_))))))
  rintro _ w5 ⟨r5, rfl, f5, c5⟩
  have z5 := c5.size
  refine Oq (Cw (.inr (.inl O)) O O) O ?_
  rintro _ w6 ⟨r6, rfl, f6, c6⟩
  have z6 := c6.size
  refine Ww O O (Qf (Ql (Qa (Qb (Wu O O ?_)))))
  refine Om (Rg O O) O ?_
  refine Ww O O (Qf ?_)
  refine Ke (k - 1, _) ?_
  have CH_6 := CH_2.and (c4.trans (c5.trans c6))
  exact ⟨⟨by omega, by omega⟩, fun _ => horn_step (first := 0) hc1 (by omega) (hp (by omega)) (cof_of (first := 0) (by omega) hm.1 (by omega) (by omega) hf f4) f5 f6, by omega, CH_6⟩
 refine Cn (Qk (Qk (Qy (Qa (Kb (Wu O O ?_))))))
 refine Ww O O (Ka (Qp (Qx O O (Kx ?_))))
 have ek : k = -1 := by omega
 subst ek
 exact ⟨_, O, hp (by omega), CH_1⟩
set_option maxHeartbeats 1000000 in
theorem ref07_series1 (y : Nat) (w : World) :
  Calls prog 236 #[.float .f64 y, Kg 1] w (Ret (fun v w' => ∃ b, v = .float .f64 b ∧ cn b = hornF 1 (cn y) ∧ Ch No w w')) := by
 refine Ku func236 O ntmps236 O (Kb (Ww O O (Wy ?_)))
 refine Ww O O (Wz (Kb (Ww O O (Qf ?_))))
 refine Qa (Qt (Kf (σ := Int × Nat) (fun (k, p) => [(0, .float .f64 y), (1, Kg 1), (5, .float .f64 p), (6, Kg k)]) (fun (k, p) w' => (-1 ≤ k ∧ k ≤ 8) ∧ (k < 8 → cn p = hornP 1 (cn y) (7 - k).toNat) ∧ w.heap.size ≤ w'.heap.size ∧ Ch (No) w w') (fun (k, p) => (k + 1).toNat) (8, 0) ?_ ?_))
 · exact ⟨⟨by omega, by omega⟩, (fun h => absurd h (by omega)), (Nat.le_refl _), (Ch.refl (No) w)⟩
 rintro ⟨k, p⟩ w1 ⟨hk, hp, hsz1, CH_1⟩
 refine Qe (Kb (Wu O O (Om (Ry O O) O (Ka (Qj O (fun hc1 => ?_) (fun hc1 => ?_))))))
 ·
  refine Qn (Qa (Qe (Qt (Kb (Ww O O (Qf ?_))))))
  refine Qa (Qe (Kb (Ww O O (Ka (Qt ?_)))))
  refine Kf (σ := Nat × Nat) (fun (m, f) => [(0, .float .f64 y), (1, Kg 1), (5, .float .f64 p), (6, Kg k), (7, .float .f64 f), (8, Kg ((m : Int) + 1))]) (fun (m, f) w' => (1 ≤ m ∧ ((m : Int) ≤ 2 * k + 1 ∨ m = 1)) ∧ cn f = facR m ∧ w1.heap.size ≤ w'.heap.size ∧ Ch (No) w w') (fun (m, f) => 20 - m) (1, 4607182418800017408) ?_ ?_
  · exact ⟨⟨by omega, .inr O⟩, (by rfl), (Nat.le_refl _), CH_1⟩
  rintro ⟨m, f⟩ w2 ⟨hm, hf, hsz2, CH_2⟩
  refine Qe (Kb (Wu O O (Wu O O ?_)))
  refine Om (Cy O O) O ?_
  refine Wu O O ?_
  refine Om (Cd O O) O ?_
  refine Om (Ro O O) O (Ka (Qj O (fun hc2 => ?_) (fun hc2 => ?_)))
  ·
   refine Qn (Qa (Qe (Qt (Qb (Wu O O (Wu O O (Om (Wb υ3 υ32 O) O ?_)))))))
   refine Oq (Cw (.inr (.inr (.inl O))) O O) O ?_
   rintro _ w3 ⟨r3, rfl, f3, c3⟩
   have z3 := c3.size
   refine Ww O O (Qf (Ql (Qa (Qb (Wu O O ?_)))))
   refine Om (Cd O O) O ?_
   refine Ww O O (Qf ?_)
   refine Ke (m + 1, _) ?_
   have CH_3 := CH_2.and c3
   exact ⟨⟨by omega, .inl (by omega)⟩, (facR_succ hm.1 hf f3), (by omega), CH_3⟩
  refine Cn (Qk (Qk (Qy (Qa (Kb (Wu O O ?_))))))
  refine Oq (Cw (.inr (.inr (.inr O))) O O) O ?_
  rintro _ w4 ⟨r4, rfl, f4, c4⟩
  have z4 := c4.size
  refine Ww O O (Wz (Kb (Wu O O (Om (Cg O O) O ?_))))
  refine Ka (Qj O (fun hc3 => ?_) (fun hc3 => ?_))
  ·
   refine Kb (Wu O O (Ww O O (Ka (Cn (Qk ?_)))))
   refine Qy (Qa (Qb (Wu O O ?_)))
   refine Om (Rg O O) O ?_
   refine Ww O O (Qf ?_)
   refine Ke (k - 1, _) ?_
   have CH_4 := CH_2.and c4
   exact ⟨⟨by omega, by omega⟩, fun _ => (by have h9 := cof_of (first := 1) (by omega) hm.1 (by omega) (by omega) hf f4; rw [show (7 - (k - 1)).toNat = 0 by omega, hornP, h9, show k.toNat = 8 by omega]), by omega, CH_4⟩
  refine Qn (Qa (Qb (Wu O O (Wu O O (Wu O O (Oq (Cw (.inr (.inr (.inl O))) O O) O ?_))))))
  rintro _ w5 ⟨r5, rfl, f5, c5⟩
  have z5 := c5.size
  refine Oq (Cw (.inr (.inl O)) O O) O ?_
  rintro _ w6 ⟨r6, rfl, f6, c6⟩
  have z6 := c6.size
  refine Ww O O (Qf (Ql (Qa (Qb (Wu O O ?_)))))
  refine Om (Rg O O) O ?_
  refine Ww O O (Qf ?_)
  refine Ke (k - 1, _) ?_
  have CH_6 := CH_2.and (c4.trans (c5.trans c6))
  exact ⟨⟨by omega, by omega⟩, fun _ => horn_step (first := 1) hc1 (by omega) (hp (by omega)) (cof_of (first := 1) (by omega) hm.1 (by omega) (by omega) hf f4) f5 f6, by omega, CH_6⟩
 refine Cn (Qk (Qk (Qy (Qa (Kb (Wu O O ?_))))))
 refine Ww O O (Ka (Qp (Qx O O (Kx ?_))))
 have ek : k = -1 := by omega
 subst ek
 exact ⟨_, O, hp (by omega), CH_1⟩
theorem ref07_eighth (r m : Int) (hr : 0 ≤ r ∧ r ≤ 1000000000000) (w : World) :
  Calls prog 181 #[Kg r, Kg m] w (Ret (fun v w' => ∃ a b, v = .tuple #[.float .f64 a, .float .f64 b] ∧ cx (a, b) = eighF r m ∧ Ch No w w')) := by
 refine Ku func181 O ntmps181 O (Kb (Ww O O (Ww O O (Wz ?_))))
 refine Kb (Wu O O (Om (Cg O O) O (Ka (Qj O (fun hc1 => ?_) (fun hc1 => ?_)))))
 ·
  refine Kb (Ww O O (Ww O O (Ka (Qp (Qw ?_)))))
  refine Ra O O O (Kx ?_)
  exact ⟨_, _, O, (by rw [eighF, if_pos (by omega)]; rfl), (Ch.refl (No) w)⟩
 refine Qn (Qa (Qe (Kb (Wu O O ?_))))
 refine Om (Cy O O) O ?_
 refine Wu O O (Om (Cg O O) O (Ka (Qj O (fun hc2 => ?_) (fun hc2 => ?_))))
 ·
  refine Kb (Om (Wi func43 (by kernel_rfl) O (by kernel_rfl) (by kernel_rfl) O) O (Ww O O (Wy ?_)))
  refine Wu O O (Wu O O (Ww O O (Ww O O (Ka (Qp (Qw ?_))))))
  refine Ra O O O (Kx ?_)
  exact ⟨_, _, O, (by rw [eighF, if_neg (by omega), if_pos (by omega)]; rfl), (Ch.refl (No) w)⟩
 refine Qn (Qa (Kb (Om (Wi func43 (by kernel_rfl) O (by kernel_rfl) (by kernel_rfl) O) O (Wu O O (Om (Wb υ3 υ32 O) O (Oq (Cw (.inr (.inr (.inl O))) O O) O ?_))))))
 rintro _ w1 ⟨r1, rfl, f1, c1⟩
 have z1 := c1.size
 refine Wu O O (Om (Wb υ3 υ32 O) O (Oq (Cw (.inr (.inr (.inr O))) O O) O ?_))
 rintro _ w2 ⟨r2, rfl, f2, c2⟩
 have z2 := c2.size
 refine Ww O O (Wy (Wu O O (Wu O O (Oq (Cw (.inr (.inr (.inl O))) O O) O ?_))))
 rintro _ w3 ⟨r3, rfl, f3, c3⟩
 have z3 := c3.size
 refine Ww O O (Wy (Wu O O (Oq (Qi call236 O (ref07_series0 _ _)) O ?_)))
 rintro _ w4 ⟨b4, rfl, F4, c4⟩
 have z4 := c4.size
 refine Wu O O (Wu O O (Oq (Qi call236 O (ref07_series1 _ _)) O ?_))
 rintro _ w5 ⟨b5, rfl, F5, c5⟩
 have z5 := c5.size
 refine Oq (Cw (.inr (.inr (.inl O))) O O) O ?_
 rintro _ w6 ⟨r6, rfl, f6, c6⟩
 have z6 := c6.size
 refine Ww O O (Ww O O (Ka (Qp (Ra O O O (Kx ?_)))))
 have CH_6 := (c1.trans (c2.trans (c3.trans (c4.trans (c5.trans c6)))))
 exact ⟨_, _, O, (by rw [eighF, if_neg (by omega), if_neg (by omega)]; show (cn _, cn _) = _; rw [F4, f6, F5, f3, f2, f1]; rfl), CH_6⟩
theorem ref07_Mod (a : Int) (n q : Nat) (hn : 0 < n) (ha : -1000000000000 ≤ a ∧ a ≤ 1000000000000) (hn2 : n ≤ 1000000000000) (hq : a % (n : Int) = (q : Int)) (w : World) :
  Calls prog 117 #[Kg a, Kg n] w (Ret (fun v w' => v = Kg q ∧ w = w')) := by
 have h0 := tmod_mod (k := a) hn
 have h1 := Int.tmod_lt_of_pos a (show (0 : Int) < n by omega)
 have h2 := Int.tmod_lt_of_pos (-a) (show (0 : Int) < n by omega)
 rw [Int.neg_tmod] at h2
 refine Ku func117 O ntmps117 O (Kb (Ww O O (Wy ?_)))
 refine Wu O O (Wu O O (Om (Rn.rem O O) O (Wu O O ?_)))
 refine Om (Cd O O) O ?_
 refine Wu O O (Om (Rn.rem O O) O (Ww O O (Ka (Qp (Qx O O (Kx ?_))))))
 exact ⟨by rw [h0, hq], O⟩
theorem ref07_pair (n : Nat) (a : Int) (q : Nat) (hn : 1 ≤ n) (hn2 : n ≤ 4194304) (ha : -1000000000000 ≤ a ∧ a ≤ 1000000000000) (hq : a % (n : Int) = (q : Int)) (w : World) :
  Calls prog 150 #[Kg n, Kg a] w (Ret (fun v w' => ∃ c s, v = .tuple #[.float .f64 c, .float .f64 s] ∧ cx (c, s) = pairF n q ∧ Ch No w w')) := by
 have hql : q < n := by have := Int.emod_lt_of_pos a (show (0 : Int) < n by omega); omega
 have hm := Nat.mod_lt (4 * q) (show 0 < n by omega)
 have hr : (4 * (q : Int)) % (n : Int) = ((4 * q % n : Nat) : Int) := by push_cast; rfl
 have hd : (4 * (q : Int)) / (n : Int) = ((4 * q / n : Nat) : Int) := by push_cast; rfl
 have hd2 := Nat.div_le_self (4 * q) n
 have hd4 : 4 * q / n < 4 := Nat.div_lt_of_lt_mul (by omega)
 refine Ku func150 O ntmps150 O (Kb (Ww O O (Ww O O (Wz ?_))))
 refine Qb (Wu O O (Wu O O (Oq (Qi κ117 O (ref07_Mod _ _ q (by omega) (by omega) (by omega) hq _)) O ?_)))
 rintro _ _ ⟨rfl, rfl⟩
 refine Om (Cy O O) O ?_
 refine Ww O O (Wz (Kj 7 [0, 2, 4, 6, 8, 10, 12] (No) ?_))
 intro w1 c1 z1
 refine Wv O O (Wv O O (Ws (Wc O O (by omega) (by omega) (by omega)) O (Wv O O (Wv O O (Ws (Rq O O) O (Wx O O (Cj ?_)))))))
 refine Ww O O (Qf (Ca (Qa (Kb (Ww O O (Ww O O ?_))))))
 refine Ka (VC.cut (σ := Nat × Nat) (fun (c, s) => [(7, Kg (4 * (q : Int) / (n : Int))), (9, .float .f64 c), (10, .float .f64 s)]) (fun (c, s) w' => cx (c, s) = pair0 n q ∧ w1.heap.size ≤ w'.heap.size ∧ Ch No w w') ?_ ?_)
 ·
  refine Kb (Wu O O ?_)
  refine Om (Cy O O) O ?_
  refine Wu O O (Om (Ro O O) O (Ka (Qj O (fun hc1 => ?_) (fun hc1 => ?_))))
  ·
   refine Qb (Wu O O (Wu O O ?_))
   refine Om (Cy O O) O ?_
   refine Oq (Qi call181 O (ref07_eighth _ _ (by omega) _)) O ?_
   rintro _ w2 ⟨a2, b2, rfl, F2, c2⟩
   have z2 := c2.size
   refine Wu O O (Om (Qu O O) O (Om (Qu O O) O (Ww O O (Ww O O (Qf (Rt (_, _) ?_ ⟨O, O, O, trivial⟩))))))
   have CH_2 := (c1.trans c2)
   exact ⟨(by rw [hr] at F2 hc1; rw [pair0, if_pos (by omega)]; exact F2), by omega, CH_2⟩
  refine Qb (Wu O O (Wu O O ?_))
  refine Om (Rg O O) O ?_
  refine Wu O O ?_
  refine Om (Cy O O) O ?_
  refine Oq (Qi call181 O (ref07_eighth _ _ (by omega) _)) O ?_
  rintro _ w3 ⟨a3, b3, rfl, F3, c3⟩
  have z3 := c3.size
  refine Wu O O (Om (Qu O O) O (Om (Qu O O) O (Ww O O (Ww O O (Qf (Rt (_, _) ?_ ⟨O, O, O, trivial⟩))))))
  have CH_3 := (c1.trans c3)
  exact ⟨(by rw [hr] at F3 hc1; rw [pair0, if_neg (by omega)]; exact congrArg (fun z : Cx => (z.2, z.1)) F3), by omega, CH_3⟩
 rintro ⟨c, s⟩ w4 ⟨hcs, hszhcs, CH_4⟩
 refine VC.cut (σ := Nat × Nat) (fun (c1, s1) => [(9, .float .f64 c1), (10, .float .f64 s1)]) (fun (c1, s1) w' => cx (c1, s1) = turF (pair0 n q) (4 * q / n) ∧ w4.heap.size ≤ w'.heap.size ∧ Ch No w w') ?_ ?_
 ·
  refine Kb (Wu O O (Ka (Qt (Kb ?_))))
  refine Om (Cg O O) O (Ww O O (Ka (Qj O (fun hc2 => ?_) (fun hc2 => ?_))))
  ·
   refine Qb (Wu O O (Om (Wf O) O (Wu O O (Ww O O (Ww O O (Qf (Ql ?_)))))))
   refine Rt (_, _) ?_ ⟨O, O, trivial⟩
   exact ⟨(by rw [hd] at hc2; rw [show 4 * q / n = 1 by omega, ← hcs]; show (cn _, cn _) = _; rw [cn_neg]; rfl), by omega, CH_4⟩
  refine Kb (Om (Cg O O) O (Ww O O (Ka (Qj O (fun hc3 => ?_) (fun hc3 => ?_)))))
  ·
   refine Qb (Wu O O (Om (Wf O) O (Wu O O (Om (Wf O) O (Ww O O (Ww O O (Qf ?_)))))))
   refine Ql (Rt (_, _) ?_ ⟨O, O, trivial⟩)
   exact ⟨(by rw [hd] at hc3; rw [show 4 * q / n = 2 by omega, tur_two, ← hcs]; show (cn _, cn _) = _; rw [cn_neg, cn_neg]; rfl), by omega, CH_4⟩
  refine Kb (Om (Cg O O) O (Ww O O (Ka (Qj O (fun hc4 => ?_) (fun hc4 => ?_)))))
  ·
   refine Qb (Wu O O (Wu O O (Om (Wf O) O (Ww O O (Ww O O (Qf (Ql ?_)))))))
   refine Rt (_, _) ?_ ⟨O, O, trivial⟩
   exact ⟨(by rw [hd] at hc4; rw [show 4 * q / n = 3 by omega, tur_three, ← hcs]; show (cn _, cn _) = _; rw [cn_neg]; rfl), by omega, CH_4⟩
  refine Qn (Ql (Rt (_, _) ?_ ⟨O, O, trivial⟩))
  exact ⟨(by rw [show 4 * q / n = 0 by generalize 4 * q / n = m at hd hd4; rw [hd] at hc2 hc3 hc4; omega]; exact hcs), by omega, CH_4⟩
 rintro ⟨c1, s1⟩ w5 ⟨hc1s, hszhc1s, CH_5⟩
 refine VC.cut (σ := Nat × Nat) (fun (c2, s2) => [(9, .float .f64 c2), (10, .float .f64 s2)]) (fun (c2, s2) w' => (cn c2 = pzF (turF (pair0 n q) (4 * q / n)).1 ∧ cn s2 = (turF (pair0 n q) (4 * q / n)).2) ∧ w5.heap.size ≤ w'.heap.size ∧ Ch No w w') ?_ ?_
 ·
  refine Kb (Wu O O (Om (Rn.feql O O) O (Ka (Cq O (fun hc5 => ?_) (fun hc5 => ?_)))))
  ·
   try simp only [bX] at hc5
   refine Qb (Ww O O (Qf (Rt (_, _) ?_ ⟨O, O, trivial⟩)))
   exact ⟨⟨by rw [← hc1s]; exact pz_yes hc5, by rw [← hc1s]; rfl⟩, by omega, CH_5⟩
  try simp only [bX] at hc5
  refine Qn (Rt (_, _) ?_ ⟨O, O, trivial⟩)
  exact ⟨⟨by rw [← hc1s]; exact pz_no (by simpa using hc5), by rw [← hc1s]; rfl⟩, by omega, CH_5⟩
 rintro ⟨c2, s2⟩ w6 ⟨hc2s, hszhc2s, CH_6⟩
 refine VC.cut (σ := Nat × Nat) (fun (c3, s3) => [(9, .float .f64 c3), (10, .float .f64 s3)]) (fun (c3, s3) w' => (cn c3 = pzF (turF (pair0 n q) (4 * q / n)).1 ∧ cn s3 = pzF (turF (pair0 n q) (4 * q / n)).2) ∧ w6.heap.size ≤ w'.heap.size ∧ Ch No w w') ?_ ?_
 ·
  refine Kb (Wu O O (Om (Rn.feql O O) O (Ka (Cq O (fun hc6 => ?_) (fun hc6 => ?_)))))
  ·
   try simp only [bX] at hc6
   refine Qb (Ww O O (Qf (Rt (_, _) ?_ ⟨O, O, trivial⟩)))
   exact ⟨⟨hc2s.1, by rw [← hc2s.2]; exact pz_yes hc6⟩, by omega, CH_6⟩
  try simp only [bX] at hc6
  refine Qn (Rt (_, _) ?_ ⟨O, O, trivial⟩)
  exact ⟨⟨hc2s.1, by rw [← hc2s.2]; exact pz_no (by simpa using hc6)⟩, by omega, CH_6⟩
 rintro ⟨c3, s3⟩ w7 ⟨hc3s, hszhc3s, CH_7⟩
 refine Kb (Wu O O (Wu O O (Ww O O (Ww O O (Ka ?_)))))
 refine Qp (Ra O O O (Kx ?_))
 exact ⟨_, _, O, (by show (cn _, cn _) = _; rw [hc3s.1, hc3s.2]; rfl), CH_7⟩
theorem ref07_Root (n : Nat) (a : Int) (q : Nat) (hn : 1 ≤ n) (hn2 : n ≤ 4194304) (ha : -1000000000000 ≤ a ∧ a ≤ 1000000000000) (hq : a % (n : Int) = (q : Int)) (w : World) :
  Calls prog 118 #[Kg n, Kg a] w (Ret (fun v w' => ∃ x y, v = .complex .f64 x y ∧ cx (x, y) = rootF n q ∧ Ch No w w')) := by
 refine Ku func118 O ntmps118 O (Kb (Ww O O (Wy ?_)))
 refine Wu O O (Wu O O (Oq (Qi call150 O (ref07_pair _ _ q (by omega) (by omega) (by omega) hq _)) O ?_))
 rintro _ w1 ⟨x1, y1, rfl, F1, c1⟩
 have z1 := c1.size
 refine Wu O O (Om (Qu O O) O (Om (Qu O O) O (Ww O O (Ww O O (Wz ?_)))))
 refine Kb (Wu O O (Om (Rn.feql O O) O (Ka (Cq O (fun hc1 => ?_) (fun hc1 => ?_)))))
 ·
  try simp only [bX] at hc1
  refine Kb (Wu O O (Om (Rf O O) O (Ww O O (Ka (Qp ?_)))))
  refine Qw (Qx O O (Kx ?_))
  have CH_1 := c1
  exact ⟨_, _, O, root_yes F1 hc1, CH_1⟩
 try simp only [bX] at hc1
 refine Qn (Qa (Kb (Wu O O (Wu O O (Om (Wf O) O (Om (Rf O O) O ?_))))))
 refine Ww O O (Ka (Qp (Qx O O (Kx ?_))))
 have CH_1 := c1
 exact ⟨_, _, O, root_no F1 (by rw [hc1]; decide), CH_1⟩
theorem ref07_Mul (a b c d : Nat) (w : World) :
  Calls prog 119 #[.complex .f64 a b, .complex .f64 c d] w (Ret (fun v w' => ∃ p q, v = .complex .f64 p q ∧ cx (p, q) = mulC (cx (a, b)) (cx (c, d)) ∧ Ch No w w')) := by
 refine Ku func119 O ntmps119 O (Kb (Ww O O (Wy ?_)))
 refine Wu O O (Om (Rh O) O (Wu O O (Om (Rh O) O (Oq (Cw (.inr (.inr (.inl O))) O O) O ?_))))
 rintro _ w1 ⟨r1, rfl, f1, c1⟩
 have z1 := c1.size
 refine Ww O O (Wy (Wu O O (Om (Ri O) O (Wu O O ?_))))
 refine Om (Ri O) O (Oq (Cw (.inr (.inr (.inl O))) O O) O ?_)
 rintro _ w2 ⟨r2, rfl, f2, c2⟩
 have z2 := c2.size
 refine Ww O O (Wy (Wu O O (Om (Rh O) O (Wu O O ?_))))
 refine Om (Ri O) O (Oq (Cw (.inr (.inr (.inl O))) O O) O ?_)
 rintro _ w3 ⟨r3, rfl, f3, c3⟩
 have z3 := c3.size
 refine Ww O O (Wy (Wu O O (Om (Ri O) O (Wu O O ?_))))
 refine Om (Rh O) O (Oq (Cw (.inr (.inr (.inl O))) O O) O ?_)
 rintro _ w4 ⟨r4, rfl, f4, c4⟩
 have z4 := c4.size
 refine Ww O O (Wy (Wu O O (Wu O O (Oq (Cw (.inr (.inl O)) O O) O ?_))))
 rintro _ w5 ⟨r5, rfl, f5, c5⟩
 have z5 := c5.size
 refine Wu O O (Wu O O (Oq (Cw (.inl O) O O) O ?_))
 rintro _ w6 ⟨r6, rfl, f6, c6⟩
 have z6 := c6.size
 refine Om (Rf O O) O (Ww O O (Ka (Qp (Qx O O (Kx ?_)))))
 have CH_6 := (c1.trans (c2.trans (c3.trans (c4.trans (c5.trans c6)))))
 exact ⟨_, _, O, (by show (cn _, cn _) = _; rw [f5, f6, f1, f2, f3, f4]; rfl), CH_6⟩
theorem ref02_Mul (a b c d : Nat) (w : World) :
  Calls prog 148 #[.complex .f64 a b, .complex .f64 c d] w (Ret (fun v w' => ∃ p q, v = .complex .f64 p q ∧ cx (p, q) = mulC (cx (a, b)) (cx (c, d)) ∧ Ch No w w')) := by
 refine Ku func148 O ntmps148 O (Kb (Ww O O (Wy ?_)))
 refine Wu O O (Om (Rh O) O (Wu O O (Om (Rh O) O (Oq (Cw (.inr (.inr (.inl O))) O O) O ?_))))
 rintro _ w1 ⟨r1, rfl, f1, c1⟩
 have z1 := c1.size
 refine Ww O O (Wy (Wu O O (Om (Ri O) O (Wu O O ?_))))
 refine Om (Ri O) O (Oq (Cw (.inr (.inr (.inl O))) O O) O ?_)
 rintro _ w2 ⟨r2, rfl, f2, c2⟩
 have z2 := c2.size
 refine Ww O O (Wy (Wu O O (Om (Rh O) O (Wu O O ?_))))
 refine Om (Ri O) O (Oq (Cw (.inr (.inr (.inl O))) O O) O ?_)
 rintro _ w3 ⟨r3, rfl, f3, c3⟩
 have z3 := c3.size
 refine Ww O O (Wy (Wu O O (Om (Ri O) O (Wu O O ?_))))
 refine Om (Rh O) O (Oq (Cw (.inr (.inr (.inl O))) O O) O ?_)
 rintro _ w4 ⟨r4, rfl, f4, c4⟩
 have z4 := c4.size
 refine Ww O O (Wy (Wu O O (Wu O O (Oq (Cw (.inr (.inl O)) O O) O ?_))))
 rintro _ w5 ⟨r5, rfl, f5, c5⟩
 have z5 := c5.size
 refine Wu O O (Wu O O (Oq (Cw (.inl O) O O) O ?_))
 rintro _ w6 ⟨r6, rfl, f6, c6⟩
 have z6 := c6.size
 refine Om (Rf O O) O (Ww O O (Ka (Qp (Qx O O (Kx ?_)))))
 have CH_6 := (c1.trans (c2.trans (c3.trans (c4.trans (c5.trans c6)))))
 exact ⟨_, _, O, (by show (cn _, cn _) = _; rw [f5, f6, f1, f2, f3, f4]; rfl), CH_6⟩
theorem ref07_Twist (u v : Nat) (n : Nat) (a : Int) (q : Nat) (hn : 1 ≤ n) (hn2 : n ≤ 4194304) (ha : -1000000000000 ≤ a ∧ a ≤ 1000000000000) (hq : a % (n : Int) = (q : Int)) (w : World) :
  Calls prog 70 #[.complex .f64 u v, Kg n, Kg a] w (Ret (fun v_ w' => ∃ x y, v_ = .complex .f64 x y ∧ cx (x, y) = twistF (cx (u, v)) n q ∧ Ch No w w')) := by
 refine Ku func70 O ntmps70 O (Kb (Ww O O (Wz (Qe ?_))))
 refine Qb (Wu O O (Wu O O (Oq (Qi κ117 O (ref07_Mod _ _ q (by omega) (by omega) (by omega) hq _)) O ?_)))
 rintro _ _ ⟨rfl, rfl⟩
 refine Om (Cg O O) O (Ka (Qj O (fun hc1 => ?_) (fun hc1 => ?_)))
 ·
  refine Kb (Wu O O (Ww O O (Ka (Qp (Qw ?_)))))
  refine Qx O O (Kx ?_)
  exact ⟨_, _, O, (by rw [twistF, if_pos (by omega)]), (Ch.refl (No) w)⟩
 refine Qn (Qa (Kb (Wu O O (Wu O O (Oq (Qi call118 O (ref07_Root _ _ q (by omega) (by omega) (by omega) hq _)) O ?_)))))
 rintro _ w1 ⟨p1, q1, rfl, F1, c1⟩
 have z1 := c1.size
 refine Ww O O (Wy (Wu O O (Wu O O (Oq (Qi call119 O (ref07_Mul _ _ _ _ _)) O ?_))))
 rintro _ w2 ⟨p2, q2, rfl, F2, c2⟩
 have z2 := c2.size
 refine Ww O O (Ka (Qp (Qx O O (Kx ?_))))
 have CH_2 := (c1.trans c2)
 exact ⟨_, _, O, (by rw [twistF, if_neg (by omega), F2, F1]), CH_2⟩
theorem ref02_Conj (a b : Nat) (w : World) :
  Calls prog 83 #[.complex .f64 a b] w (Ret (fun v w' => ∃ p q, v = .complex .f64 p q ∧ cx (p, q) = conjC (cx (a, b)) ∧ Ch No w w')) := by
 refine Ku func83 O ntmps83 O (Kb (Ww O O (Wy ?_)))
 refine Wu O O (Om (Rh O) O (Wu O O (Om (Ri O) O (Om (Wf O) O (Om (Rf O O) O (Ww O O (Qf ?_)))))))
 refine Qa (Qp (Qx O O (Kx ?_)))
 exact ⟨_, _, O, (by show (cn _, cn _) = _; rw [cn_neg]; rfl), (Ch.refl (No) w)⟩
theorem ref02_Over (a b : Nat) (m : Int) (w : World) :
  Calls prog 120 #[.complex .f64 a b, Kg m] w (Ret (fun v w' => ∃ p q, v = .complex .f64 p q ∧ cx (p, q) = overC (cx (a, b)) m ∧ Ch No w w')) := by
 refine Ku func120 O ntmps120 O (Kb (Ww O O (Wy ?_)))
 refine Wu O O (Om (Rh O) O (Wu O O (Om (Wb υ3 υ32 O) O (Oq (Cw (.inr (.inr (.inr O))) O O) O ?_))))
 rintro _ w1 ⟨r1, rfl, f1, c1⟩
 have z1 := c1.size
 refine Wu O O (Om (Ri O) O (Wu O O (Om (Wb υ3 υ32 O) O (Oq (Cw (.inr (.inr (.inr O))) O O) O ?_))))
 rintro _ w2 ⟨r2, rfl, f2, c2⟩
 have z2 := c2.size
 refine Om (Rf O O) O (Ww O O (Ka (Qp (Qx O O (Kx ?_)))))
 have CH_2 := (c1.trans c2)
 exact ⟨_, _, O, (by show (cn _, cn _) = _; rw [f1, f2]; rfl), CH_2⟩
theorem ref10_Plus (a b c d : Nat) (w : World) :
  Calls prog 145 #[.complex .f64 a b, .complex .f64 c d] w (Ret (fun v w' => ∃ p q, v = .complex .f64 p q ∧ cx (p, q) = plusC (cx (a, b)) (cx (c, d)) ∧ Ch No w w')) := by
 refine Ku func145 O ntmps145 O (Kb (Ww O O (Wy ?_)))
 refine Wu O O (Om (Rh O) O (Wu O O (Om (Rh O) O (Oq (Cw (.inl O) O O) O ?_))))
 rintro _ w1 ⟨r1, rfl, f1, c1⟩
 have z1 := c1.size
 refine Wu O O (Om (Ri O) O (Wu O O (Om (Ri O) O (Oq (Cw (.inl O) O O) O ?_))))
 rintro _ w2 ⟨r2, rfl, f2, c2⟩
 have z2 := c2.size
 refine Om (Rf O O) O (Ww O O (Ka (Qp (Qx O O (Kx ?_)))))
 have CH_2 := (c1.trans c2)
 exact ⟨_, _, O, (by show (cn _, cn _) = _; rw [f1, f2]; rfl), CH_2⟩
theorem ref10_prod (j k n : Nat) (hn : 0 < n) (hn2 : n ≤ 16384) (hj : j ≤ 1000000) (hk : k ≤ 1000000) (w : World) :
  Calls prog 144 #[Kg j, Kg k, Kg n] w (Ret (fun v w' => v = Kg ((j * k % n : Nat) : Int) ∧ w = w')) := by
 have h1 := Nat.mod_lt j hn
 have h2 := Nat.mod_lt k hn
 have h3 : (((j % n : Nat) : Int)) * (((k % n : Nat) : Int)) = ((j % n * (k % n) : Nat) : Int) := by push_cast; rfl
 have h4 : j % n * (k % n) ≤ 16384 * 16384 := Nat.mul_le_mul (by omega) (by omega)
 refine Ku func144 O ntmps144 O (Kb (Ww O O (Wy ?_)))
 refine Wu O O (Wu O O ?_)
 refine Oq (Qi κ117 O (ref07_Mod _ _ (j % (n)) (by omega) (by omega) (by omega) (by push_cast; rfl) _)) O ?_
 rintro _ _ ⟨rfl, rfl⟩
 refine Wu O O (Wu O O ?_)
 refine Oq (Qi κ117 O (ref07_Mod _ _ (k % (n)) (by omega) (by omega) (by omega) (by push_cast; rfl) _)) O ?_
 rintro _ _ ⟨rfl, rfl⟩
 refine Om (Cy O O) O ?_
 refine Wu O O (Om (Rq O O) O (Ww O O (Ka (Qp (Qx O O (Kx ?_))))))
 exact ⟨by rw [h3, Nat.mul_mod]; push_cast; rfl, O⟩
theorem ref10_At (S : Nat → Prop) (A : Option Addr) (n c k : Nat) (xs : List CB) (w : World) (sl : SlR S w A n 1 (xs.map cxV)) (hn : 1 ≤ n := by omega) (hn2 : n ≤ 64 := by omega) (hk : k < n := by omega) :
  Calls prog 113 #[.slice A n c, Kg 0, Kg 1, Kg n, Kg k] w (Ret (fun v w' => ∃ a b, v = .complex .f64 a b ∧ cx (a, b) = directG n k (fun i => cx (xs.getD i (0, 0))) ∧ Ch No w w')) := by
 refine Ku func113 O ntmps113 O (Kb (Ww O O (Wy ?_)))
 refine Wu O O (Wu O O (Om (Qs υ31 ς33 O O (sl.ne (by omega))) O (Om (Qg ι33 O (sl.getC (by omega) (by omega))) O (Ww O O (Wz ?_)))))
 refine Kb (Ww O O (Ka (Qt (Kf (σ := Nat × Nat × Nat) (fun (j, a, b) => [(0, .slice A n c), (1, Kg 0), (2, Kg 1), (3, Kg n), (4, Kg k), (11, .complex .f64 a b), (12, Kg j)]) (fun (j, a, b) w' => (1 ≤ j ∧ j ≤ n) ∧ cx (a, b) = sumG n k (fun i => cx (xs.getD i (0, 0))) (j - 1) ∧ w.heap.size ≤ w'.heap.size ∧ SlR S w' A n 1 (xs.map cxV) ∧ Ch (No) w w') (fun (j, a, b) => n - j) (1, _, _) ?_ ?_))))
 · exact ⟨⟨by omega, by omega⟩, (by rfl), (Nat.le_refl _), sl, (Ch.refl (No) w)⟩
 rintro ⟨j, a, b⟩ w1 ⟨hj, hs, hsz1, sl_1, CH_1⟩
 have hlt := Nat.mod_lt (j * k) (show 0 < n by omega)
 refine Qe (Kb (Wu O O (Wu O O (Om (Co O O) O (Ka ?_)))))
 refine Qj O (fun hc1 => ?_) (fun hc1 => ?_)
 ·
  refine Qn (Qa (Qe (Qt (Qe (Kj 14 [0, 2, 4, 6, 8, 10, 12, 14, 16, 18, 20, 22, 25, 27] (No) ?_)))))
  intro w2 c2 z2
  have sl_2 := sl_1.keep c2
  refine Wv O O (Wv O O (Wv O O (Wv O O ?_)))
  refine Ws (Cy O O) O ?_
  refine Ws (Cd O O) O ?_
  refine Wt (fun hS => Qs υ31 ς33 O O ((sl_2.keep hS).ne (by omega))) O (Wt (fun hS => Qg ι33 O ((sl_2.keep hS).getC (by omega) (by omega))) O (Wv O O (Wv O O (Wv O O (Wv O O (Hq (Qi call144 O (ref10_prod j k n (by omega) (by omega) (by omega) (by omega) _)) O ?_))))))
  rintro _ _ ⟨rfl, rfl⟩
  refine ⟨(Ch.refl (No) w2), ?_⟩
  refine Hq (Qi call70 O (ref07_Twist _ _ n ((j * k % n : Nat) : Int) (j * k % n) (by omega) (by omega) (by omega) (Int.emod_eq_of_lt (by omega) (by omega)) _)) O ?_
  rintro _ w3 ⟨p3, q3, rfl, F3, c3⟩
  have z3 := c3.size
  have RD_3 := (Ch.refl (No) w2).and c3
  refine ⟨RD_3, ?_⟩
  refine Cj (Ww O O (Qf (Ca (Qa (Qb (Wu O O (Wu O O ?_)))))))
  refine Oq (Qi call145 O (ref10_Plus _ _ _ _ _)) O ?_
  rintro _ w4 ⟨p4, q4, rfl, F4, c4⟩
  have z4 := c4.size
  refine Ww O O (Qf (Ql (Qa (Qb (Wu O O ?_)))))
  refine Om (Cd O O) O ?_
  refine Ww O O (Qf ?_)
  refine Ke (j + 1, _, _) ?_
  have sl_4 := sl_2.keep (c3.trans c4)
  have CH_4 := CH_1.and (c2.trans (c3.trans c4))
  exact ⟨⟨by omega, by omega⟩, (by rw [sumG_step hj.1, ← hs, F4, F3, show ((0 : Int) + (j : Int) * 1).toNat = j by omega]; rfl), by omega, sl_4, CH_4⟩
 refine Cn (Qk (Qk (Qy (Qa (Kb (Wu O O ?_))))))
 refine Ww O O (Ka (Qp (Qx O O (Kx ?_))))
 have e : j = n := by omega
 subst e
 exact ⟨_, _, O, hs, CH_1⟩
theorem ref13_At (n j : Nat) (hn : 1 ≤ n) (hn2 : n ≤ 16384) (hj : j ≤ 1000000) (w : World) :
  Calls prog 180 #[Kg n, Kg j] w (Ret (fun v w' => ∃ x y, v = .complex .f64 x y ∧ cx (x, y) = chirpF n j ∧ Ch No w w')) := by
 have hlt := Nat.mod_lt j (show 0 < 2 * n by omega)
 have hsq : j % (2 * n) * (j % (2 * n)) ≤ 32768 * 32768 := Nat.mul_le_mul (by omega) (by omega)
 have hsq2 : (((j % (2 * n) : Nat) : Int)) * (((j % (2 * n) : Nat) : Int)) = ((j % (2 * n) * (j % (2 * n)) : Nat) : Int) := by push_cast; rfl
 have hq9 : (((j % (2 * n) : Nat) : Int)) * (((j % (2 * n) : Nat) : Int)) % (2 * (n : Int)) = ((j % (2 * n) * (j % (2 * n)) % (2 * n) : Nat) : Int) := by rw [hsq2]; push_cast; rfl
 have hq8 := Nat.mod_lt (j % (2 * n) * (j % (2 * n))) (show 0 < 2 * n by omega)
 refine Ku func180 O ntmps180 O (Kb (Ww O O (Wy ?_)))
 refine Wu O O (Wu O O ?_)
 refine Om (Cy O O) O ?_
 refine Oq (Qi κ117 O (ref07_Mod _ (2 * n) (j % (2 * n)) (by omega) (by omega) (by omega) (by push_cast; rfl) _)) O ?_
 rintro _ _ ⟨rfl, rfl⟩
 refine Ww O O (Wy (Wu O O ?_))
 refine Om (Cy O O) O ?_
 refine Wu O O (Wu O O ?_)
 refine Om (Cy O O) O ?_
 refine Wu O O ?_
 refine Om (Cy O O) O ?_
 refine Om (Rq O O) O ?_
 refine Oq (Qi call118 O (ref07_Root (2 * n) _ (j % (2 * n) * (j % (2 * n)) % (2 * n)) (by omega) (by omega) (by omega) (by rw [hq9]; exact Int.emod_eq_of_lt (by omega) (by omega)) _)) O ?_
 rintro _ w1 ⟨p1, q1, rfl, F1, c1⟩
 have z1 := c1.size
 refine Ww O O (Ka (Qp (Qx O O (Kx ?_))))
 have CH_1 := c1
 exact ⟨_, _, O, F1, CH_1⟩
theorem ref13_List (n : Nat) (hn : 1 ≤ n) (hn2 : n ≤ 16384) (w : World) :
  Calls prog 147 #[Kg n] w (Ret (fun v w' => ∃ r A k os, v = .slice A n k ∧ CR 33 w' r A n k os ∧ (∀ i, i < n → cx (os.getD i (0, 0)) = chirpF n i) ∧ w.heap.size < r ∧ Ch No w w')) := by
 refine Ku func147 O ntmps147 O (Kb (Ww O O (Wy ?_)))
 refine Kc (Wk.lit0 υ31 inf33w99) O ?_
 intro p1 w1 N1 c1 e1 z1
 have l5o := Ow.of_new (cs := []) (sz := 1) (l := 0) N1 rfl (by decide)
 refine Ww O O (Wz (Kb (Ww O O (Qf ?_))))
 refine Qa (Qt ?_)
 have CH_1 := c1
 refine Kf (σ := Nat × Nat × Option Addr × Nat × List CB) (fun (i, r1, A1, c1, os) => [(0, Kg n), (3, .slice A1 i c1), (4, Kg i)]) (fun (i, r1, A1, c1, os) w' => i ≤ n ∧ w.heap.size < r1 ∧ (∀ m, m < i → cx (os.getD m (0, 0)) = chirpF n m) ∧ w1.heap.size ≤ w'.heap.size ∧ CR 33 w' r1 A1 i c1 os ∧ Ch (No) w w') (fun (i, r1, A1, c1, os) => n - i) (0, (p1 + 1), (Ki p1), 0, []) ?_ ?_
 · exact ⟨(by omega), (by omega), (fun m h => absurd h (by omega)), (Nat.le_refl _), l5o, CH_1⟩
 rintro ⟨i, r1, A1, c1, os⟩ w2 ⟨hile, hr1, hos, hsz2, gc_2, CH_2⟩
 refine Qe (Kb (Wu O O (Wu O O (Om (Co O O) O (Ka ?_)))))
 refine Qj O (fun hc1 => ?_) (fun hc1 => ?_)
 ·
  refine Qn (Qa (Qe (Qt (Qb (Wu O O (Wu O O (Wu O O ?_)))))))
  refine Oq (Qi call180 O (ref13_At _ _ (by omega) (by omega) (by omega) _)) O ?_
  rintro _ w3 ⟨p3, q3, rfl, F3, c3⟩
  have z3 := c3.size
  refine Kq 1 1 (Kl υ31 inf33w99 O O) O ?_
  intro p4 w4 l15 l15o c4 e4 z4
  have gc_4 := gc_2.keep (c3.trans c4)
  refine Oq (Cm (S := _) υ31 inf33w99 O (by decide) O O gc_4 l15 (by rfl) (fun h => by simp at h) (by omega) (by simp only [maxLen]; omega)) O ?_
  rintro _ w5 ⟨r5, A5, k5, rfl, o5, c5, q5⟩
  have z5 := c5.size
  have y5 := o5.lt
  refine Ww O O (Qf (Ql (Qa (Qb (Wu O O ?_)))))
  refine Om (Cd O O) O ?_
  refine Ww O O (Qf ?_)
  refine Ke (i + 1, r5, A5, k5, os ++ [(p3, q3)]) ?_
  have CH_4 := CH_2.and (c3.trans c4)
  have CH_5 : Ch (No) w w5 := CH_4.then c5
  exact ⟨(by omega), (by omega), (LX.snoc hos (CR.len gc_4) F3), (by omega), (by show Ow _ _ _ _ _ _ _ (List.map cxV (os ++ _)); rw [List.map_append]; exact o5), CH_5⟩
 refine Cn (Qk (Qk (Qy (Qa (Kb (Wu O O ?_))))))
 refine Ww O O (Ka (Qp (Qx O O (Kx ?_))))
 obtain rfl : i = n := by omega
 exact ⟨_, _, _, _, O, gc_2, hos, hr1, CH_2⟩
end Go.Tm
namespace Go.Tm
set_option maxRecDepth 100000
open Go.RowKit Go.Proofs Go.Proofs.Tryz
section
variable {P : Program} {n : Fr} {k : K} {w : World} {d : Option Tmp} {ty : TypeId} {pos : String} {aft : Array Edge} {g : Option (Nat × Bool)} {t t' : TypeId} {x y : Operand} {a b : Nat}
theorem Rn.flss (hx : ev k x = some (.float .f64 a)) (hy : ev k y = some (.float .f64 b)) : Rn P n k w { dst := d, op := .binOp .lss t x y t', type := ty, pos := pos, after := aft, guard := g } (.bool (Ieee.double.order a b == some .lt)) :=
 Rz hx hy (fun x y => by simp [eqGuard, binOp, Op.floatCmp, FloatKind.format])
theorem Rn.fleq (hx : ev k x = some (.float .f64 a)) (hy : ev k y = some (.float .f64 b)) : Rn P n k w { dst := d, op := .binOp .leq t x y t', type := ty, pos := pos, after := aft, guard := g } (.bool (Ieee.double.order a b == some .lt || Ieee.double.order a b == some .eq)) :=
 Rz hx hy (fun x y => by simp [eqGuard, binOp, Op.floatCmp, FloatKind.format])
theorem Rn.fgeq (hx : ev k x = some (.float .f64 a)) (hy : ev k y = some (.float .f64 b)) : Rn P n k w { dst := d, op := .binOp .geq t x y t', type := ty, pos := pos, after := aft, guard := g } (.bool (Ieee.double.order a b == some .gt || Ieee.double.order a b == some .eq)) :=
 Rz hx hy (fun x y => by simp [eqGuard, binOp, Op.floatCmp, FloatKind.format])
end
theorem guardUO {ops : Array Oper} {n : Fr} {k : K} {o : Oper} {a : Act} {j t : Nat} {wt : Bool} (hg : o.guard = some (j, wt)) (hj : (ops[j]?).bind (·.dst) = some t) (hk : kget k t = some undef) (ha : Fits n k a) : Region.wanted o (yielded ops a.tmps) = false := by
 have h1 : (ops[j]?).bind (fun x => x.dst) = some t := hj
 have : yielded ops a.tmps j = none := by
  unfold yielded
  rw [h1]
  simp [ha.known t _ hk, undef]
 unfold Region.wanted
 rw [hg]
 show (yielded ops a.tmps j == some wt) = false
 rw [this]; rfl
theorem VO.skipU {P : Program} {n : Fr} {ops : Array Oper} {Q : Exit → Act → World → Prop} {rest : List Oper} {k : K} {w : World} {o : Oper} {d j t : Nat} {wt : Bool} (hd : o.dst = some d) (hg : o.guard = some (j, wt)) (hj : (ops[j]?).bind (·.dst) = some t) (hk : kget k t = some undef) (hn : Nat.blt d n.sz = true)
  (h : VO P n ops Q rest ((d, undef) :: k) w) : VO P n ops Q (o :: rest) k w := by
 intro a ha
 unfold wpList
 rw [guardUO hg hj hk ha]
 simp only [Bool.false_eq_true, if_false]
 rw [hd]
 exact h _ (ha.put hn _)
theorem inf33w100 : Inf prog 33 (.complex .f64 0 0) 1 16 := ⟨Tryz.t33, type33, rfl, rfl, rfl⟩
theorem build183w100 {ps : List (Nat × Value)} {cs : Array Value} (h : Instr.fill (fun i => ([(0, 1)] : List (Nat × Nat))[i]?) #[.bool false] ps = some cs) (w : World) : (Instr.build 183 ps.toArray).run prog w = .ok (.agg cs) w := by
 simp [Instr.build, runUnderlying183, zeroValue183, ς4, Value.cells, h]
theorem calm_See (f : Nat) (q : Nat) (b9 : Bool) (w : World) (wb : Bk w q #[.bool b9] 183) :
  Calls prog 290 #[Kh q, .float .f64 f] w (Ret (fun v w' => v = .float .f64 f ∧ ∃ b8, Bk w' q #[.bool b8] 183 ∧ Ch (Is q) w w')) := by
 refine Ku func290 O ntmps290 O (Kb (Ww O O (Wy ?_)))
 refine Ww O O (Ww O O (Wy (Wu O O (Ww O O ?_))))
 refine Ka (VC.cut (σ := Nat) (fun g => [(0, Kh q), (1, .float .f64 f), (5, .float .f64 8660422083433463808), (6, .float .f64 553942754166571008), (7, .float .f64 g)]) (fun g w' => w.heap.size ≤ w'.heap.size ∧ Bk w' q #[.bool b9] 183 ∧ Ch (Is q) w w') ?_ ?_)
 ·
  refine Kb (Wu O O (Om (Rn.flss O O) O (Ka (Cq O (fun hc1 => ?_) (fun hc1 => ?_)))))
  ·
   try simp only [bX] at hc1
   refine Qb (Wu O O (Om (Wf O) O (Ww O O (Qf (Rt _ ?_ ⟨O, O, O, O, O, trivial⟩)))))
   exact ⟨by omega, wb, (Ch.refl (Is q) w)⟩
  try simp only [bX] at hc1
  refine Qn (Rt _ ?_ ⟨O, O, O, O, O, trivial⟩)
  exact ⟨by omega, wb, (Ch.refl (Is q) w)⟩
 rintro g w1 ⟨hszx1, wb_1, CH_1⟩
 refine VC.cut (σ := Bool) (fun b7 => [(0, Kh q), (1, .float .f64 f)]) (fun b7 w' => w1.heap.size ≤ w'.heap.size ∧ Bk w' q #[.bool b7] 183 ∧ Ch (Is q) w w') ?_ ?_
 ·
  refine Kb (Wu O O (Om (Rn.feql O O) O (Wu O O ?_)))
  refine Cz (b := _) 9 15 24 O (fun hc2 Jhc2 => by
    refine Oy O (Oy O (Oy O (Oy O (VO.skipU O O O O O (VO.skipU O O O O O (VO.skipU O O O O O (Oy O ?_)))))))
    refine Om (Qr O O) O ?_
    exact (Qo O (Qo O (Qo O (Qo O (Qo O (Qo O (Qo O (Qo O Jhc2))))))))) (fun hc2 Jhc2 => by
    try simp only [bX] at hc2
    refine Wu O O (Wu O O (Om (Rn.fgeq O O) O (Wu O O ?_)))
    refine Re (b := _) 4 19 23 O (fun hc3 Jhc3 => by
      try simp only [bX] at hc3
      refine Wu O O (Wu O O (Om (Rn.fleq O O) O (Om (Qr O O) O ?_)))
      exact (Qo O (Qo O (Qo O Jhc3)))) (fun hc3 Jhc3 => by
      refine Oy O (Oy O (Oy O (Om (Qm O O) O ?_)))
      exact (Qo O (Qo O (Qo O Jhc3)))) ?_
    refine Om (Qm O O) O ?_
    exact (Qo O (Qo O (Qo O (Qo O (Qo O Jhc2)))))) ?_
  refine Om (Rm O) O (Ka (Cq O (fun hc4 => ?_) (fun hc4 => ?_)))
  ·
   try simp only [bX] at hc4
   refine Qb (Wu O O (Om (Qq O) O (Om (Qh underlying183 O ς4 O O O) O (Ks (Rk ς4 O O O O wb_1 O) O ?_))))
   intro w2 c2 z2 wb_2
   refine Qf (Rt true ?_ ⟨O, O, trivial⟩)
   have CH_2 : Ch (Is q) w w2 := CH_1.then c2
   exact ⟨by omega, wb_2, CH_2⟩
  try simp only [bX] at hc4
  refine Qn (Rt b9 ?_ ⟨O, O, trivial⟩)
  exact ⟨by omega, wb_1, CH_1⟩
 rintro b7 w3 ⟨hszx3, wb_3, CH_3⟩
 refine Kb (Wu O O (Ww O O (Ka (Qp (Qx O O ?_)))))
 refine Kx ?_
 exact ⟨O, _, wb_3, CH_3⟩
theorem calm_Sum (f g : Nat) (q : Nat) (b9 : Bool) (w : World) (wb : Bk w q #[.bool b9] 183) :
  Calls prog 271 #[Kh q, .float .f64 f, .float .f64 g] w (Ret (fun v w' => ∃ r, v = .float .f64 r ∧ cn r = fop .add (cn f) (cn g) ∧ ∃ b8, Bk w' q #[.bool b8] 183 ∧ Ch (Is q) w w')) := by
 refine Ku func271 O ntmps271 O (Kb (Ww O O (Wy ?_)))
 refine Wu O O (Wu O O (Wu O O (Oq (Cw (.inl O) O O) O ?_)))
 rintro _ w1 ⟨r1, rfl, f1, c1⟩
 have z1 := c1.size
 have wb_1 := wb.keep c1
 refine Oq (Qi call290 O (calm_See _ _ _ _ wb_1)) O ?_
 rintro _ w2 ⟨rfl, b8_2, wb_2, c2⟩
 have z2 := c2.size
 refine Ww O O (Ka (Qp (Qx O O (Kx ?_))))
 have CH_1 := (Ch.refl (Is q) w).and c1
 have CH_2 : Ch (Is q) w w2 := CH_1.then c2
 exact ⟨_, O, f1, _, wb_2, CH_2⟩
theorem calm_Less (f g : Nat) (q : Nat) (b9 : Bool) (w : World) (wb : Bk w q #[.bool b9] 183) :
  Calls prog 272 #[Kh q, .float .f64 f, .float .f64 g] w (Ret (fun v w' => ∃ r, v = .float .f64 r ∧ cn r = fop .sub (cn f) (cn g) ∧ ∃ b8, Bk w' q #[.bool b8] 183 ∧ Ch (Is q) w w')) := by
 refine Ku func272 O ntmps272 O (Kb (Ww O O (Wy ?_)))
 refine Wu O O (Wu O O (Wu O O (Oq (Cw (.inr (.inl O)) O O) O ?_)))
 rintro _ w1 ⟨r1, rfl, f1, c1⟩
 have z1 := c1.size
 have wb_1 := wb.keep c1
 refine Oq (Qi call290 O (calm_See _ _ _ _ wb_1)) O ?_
 rintro _ w2 ⟨rfl, b8_2, wb_2, c2⟩
 have z2 := c2.size
 refine Ww O O (Ka (Qp (Qx O O (Kx ?_))))
 have CH_1 := (Ch.refl (Is q) w).and c1
 have CH_2 : Ch (Is q) w w2 := CH_1.then c2
 exact ⟨_, O, f1, _, wb_2, CH_2⟩
theorem calm_Product (f g : Nat) (q : Nat) (b9 : Bool) (w : World) (wb : Bk w q #[.bool b9] 183) :
  Calls prog 273 #[Kh q, .float .f64 f, .float .f64 g] w (Ret (fun v w' => ∃ r, v = .float .f64 r ∧ cn r = fop .mul (cn f) (cn g) ∧ ∃ b8, Bk w' q #[.bool b8] 183 ∧ Ch (Is q) w w')) := by
 refine Ku func273 O ntmps273 O (Kb (Ww O O (Wy ?_)))
 refine Wu O O (Wu O O (Oq (Cw (.inr (.inr (.inl O))) O O) O ?_))
 rintro _ w1 ⟨r1, rfl, f1, c1⟩
 have z1 := c1.size
 refine Ww O O (Ka (VC.cut (σ := Bool) (fun b7 => [(0, Kh q), (7, .float .f64 r1)]) (fun b7 w' => w1.heap.size ≤ w'.heap.size ∧ Bk w' q #[.bool b7] 183 ∧ Ch (Is q) w w') ?_ ?_))
 ·
  refine Kb (Wu O O (Om (Rn.fneq O O) O (Wu O O ?_)))
  refine Re (b := _) 3 13 16 O (fun hc1 Jhc1 => by
    try simp only [bX] at hc1
    refine Wu O O (Om (Rn.fneq O O) O (Om (Qr O O) O ?_))
    exact (Qo O (Qo O Jhc1))) (fun hc1 Jhc1 => by
    refine Oy O (Oy O (Om (Qm O O) O ?_))
    exact (Qo O (Qo O Jhc1))) ?_
  refine Wu O O ?_
  refine Re (b := _) 3 17 20 O (fun hc2 Jhc2 => by
    try simp only [bX] at hc2
    refine Wu O O (Om (Rn.feql O O) O (Om (Qr O O) O ?_))
    exact (Qo O (Qo O Jhc2))) (fun hc2 Jhc2 => by
    refine Oy O (Oy O (Om (Qm O O) O ?_))
    exact (Qo O (Qo O Jhc2))) ?_
  refine Ka (Cq O (fun hc3 => ?_) (fun hc3 => ?_))
  ·
   try simp only [bX] at hc3
   refine Qb (Wu O O (Om (Qq O) O (Om (Qh underlying183 O ς4 O O O) O ?_)))
   have wb_1 := wb.keep c1
   refine Ks (Rk ς4 O O O O wb_1 O) O ?_
   intro w2 c2 z2 wb_2
   refine Qf (Rt true ?_ ⟨O, O, trivial⟩)
   have CH_1 := (Ch.refl (Is q) w).and c1
   have CH_2 : Ch (Is q) w w2 := CH_1.then c2
   exact ⟨by omega, wb_2, CH_2⟩
  try simp only [bX] at hc3
  refine Qn (Rt b9 ?_ ⟨O, O, trivial⟩)
  have wb_1 := wb.keep c1
  have CH_1 := (Ch.refl (Is q) w).and c1
  exact ⟨by omega, wb_1, CH_1⟩
 rintro b7 w3 ⟨hszx3, wb_3, CH_3⟩
 refine Kb (Wu O O (Wu O O (Oq (Qi call290 O (calm_See _ _ _ _ wb_3)) O ?_)))
 rintro _ w4 ⟨rfl, b8_4, wb_4, c4⟩
 have z4 := c4.size
 refine Ww O O (Ka (Qp (Qx O O (Kx ?_))))
 have CH_4 : Ch (Is q) w w4 := CH_3.then c4
 exact ⟨_, O, f1, _, wb_4, CH_4⟩
theorem calm_Add (a b c d : Nat) (q : Nat) (b9 : Bool) (w : World) (wb : Bk w q #[.bool b9] 183) :
  Calls prog 231 #[Kh q, .complex .f64 a b, .complex .f64 c d] w (Ret (fun v w' => ∃ x y, v = .complex .f64 x y ∧ cx (x, y) = plusC (cx (a, b)) (cx (c, d)) ∧ ∃ b8, Bk w' q #[.bool b8] 183 ∧ Ch (Is q) w w')) := by
 refine Ku func231 O ntmps231 O (Kb (Ww O O (Wy ?_)))
 refine Wu O O (Wu O O (Om (Rh O) O (Wu O O (Om (Rh O) O (Oq (Qi call271 O (calm_Sum _ _ _ _ _ wb)) O ?_)))))
 rintro _ w1 ⟨r1, rfl, F1, b8_1, wb_1, c1⟩
 have z1 := c1.size
 refine Wu O O (Wu O O (Om (Ri O) O (Wu O O (Om (Ri O) O (Oq (Qi call271 O (calm_Sum _ _ _ _ _ wb_1)) O ?_)))))
 rintro _ w2 ⟨r2, rfl, F2, b8_2, wb_2, c2⟩
 have z2 := c2.size
 refine Om (Rf O O) O (Ww O O (Ka (Qp (Qx O O (Kx ?_)))))
 have CH_1 : Ch (Is q) w w1 := (Ch.refl (Is q) w).then c1
 have CH_2 : Ch (Is q) w w2 := CH_1.then c2
 exact ⟨_, _, O, (by show (cn _, cn _) = _; rw [F1, F2]; rfl), _, wb_2, CH_2⟩
theorem calm_Sub (a b c d : Nat) (q : Nat) (b9 : Bool) (w : World) (wb : Bk w q #[.bool b9] 183) :
  Calls prog 232 #[Kh q, .complex .f64 a b, .complex .f64 c d] w (Ret (fun v w' => ∃ x y, v = .complex .f64 x y ∧ cx (x, y) = lessC (cx (a, b)) (cx (c, d)) ∧ ∃ b8, Bk w' q #[.bool b8] 183 ∧ Ch (Is q) w w')) := by
 refine Ku func232 O ntmps232 O (Kb (Ww O O (Wy ?_)))
 refine Wu O O (Wu O O (Om (Rh O) O (Wu O O (Om (Rh O) O (Oq (Qi call272 O (calm_Less _ _ _ _ _ wb)) O ?_)))))
 rintro _ w1 ⟨r1, rfl, F1, b8_1, wb_1, c1⟩
 have z1 := c1.size
 refine Wu O O (Wu O O (Om (Ri O) O (Wu O O (Om (Ri O) O (Oq (Qi call272 O (calm_Less _ _ _ _ _ wb_1)) O ?_)))))
 rintro _ w2 ⟨r2, rfl, F2, b8_2, wb_2, c2⟩
 have z2 := c2.size
 refine Om (Rf O O) O (Ww O O (Ka (Qp (Qx O O (Kx ?_)))))
 have CH_1 : Ch (Is q) w w1 := (Ch.refl (Is q) w).then c1
 have CH_2 : Ch (Is q) w w2 := CH_1.then c2
 exact ⟨_, _, O, (by show (cn _, cn _) = _; rw [F1, F2]; rfl), _, wb_2, CH_2⟩
theorem calm_Times (a b f : Nat) (q : Nat) (b9 : Bool) (w : World) (wb : Bk w q #[.bool b9] 183) :
  Calls prog 233 #[Kh q, .complex .f64 a b, .float .f64 f] w (Ret (fun v w' => ∃ x y, v = .complex .f64 x y ∧ cx (x, y) = timesF (cx (a, b)) (cn f) ∧ ∃ b8, Bk w' q #[.bool b8] 183 ∧ Ch (Is q) w w')) := by
 refine Ku func233 O ntmps233 O (Kb (Ww O O (Wy ?_)))
 refine Wu O O (Wu O O (Om (Rh O) O (Wu O O (Oq (Qi call273 O (calm_Product _ _ _ _ _ wb)) O ?_))))
 rintro _ w1 ⟨r1, rfl, F1, b8_1, wb_1, c1⟩
 have z1 := c1.size
 refine Wu O O (Wu O O (Om (Ri O) O (Wu O O (Oq (Qi call273 O (calm_Product _ _ _ _ _ wb_1)) O ?_))))
 rintro _ w2 ⟨r2, rfl, F2, b8_2, wb_2, c2⟩
 have z2 := c2.size
 refine Om (Rf O O) O (Ww O O (Ka (Qp (Qx O O (Kx ?_)))))
 have CH_1 : Ch (Is q) w w1 := (Ch.refl (Is q) w).then c1
 have CH_2 : Ch (Is q) w w2 := CH_1.then c2
 exact ⟨_, _, O, (by show (cn _, cn _) = _; rw [F1, F2]; rfl), _, wb_2, CH_2⟩
theorem ref02_TimesI (a b : Nat) (w : World) :
  Calls prog 274 #[.complex .f64 a b] w (Ret (fun v w' => ∃ p q, v = .complex .f64 p q ∧ cx (p, q) = timesI (cx (a, b)) ∧ Ch No w w')) := by
 refine Ku func274 O ntmps274 O (Kb (Ww O O (Wy ?_)))
 refine Wu O O (Om (Ri O) O (Om (Wf O) O (Wu O O (Om (Rh O) O (Om (Rf O O) O (Ww O O (Qf ?_)))))))
 refine Qa (Qp (Qx O O (Kx ?_)))
 exact ⟨_, _, O, (by show (cn _, cn _) = _; rw [cn_neg]; rfl), (Ch.refl (No) w)⟩
theorem ref02_MinusI (a b : Nat) (w : World) :
  Calls prog 86 #[.complex .f64 a b] w (Ret (fun v w' => ∃ p q, v = .complex .f64 p q ∧ cx (p, q) = minusI (cx (a, b)) ∧ Ch No w w')) := by
 refine Ku func86 O ntmps86 O (Kb (Ww O O (Wy ?_)))
 refine Wu O O (Om (Ri O) O (Wu O O (Om (Rh O) O (Om (Wf O) O (Om (Rf O O) O (Ww O O (Qf ?_)))))))
 refine Qa (Qp (Qx O O (Kx ?_)))
 exact ⟨_, _, O, (by show (cn _, cn _) = _; rw [cn_neg]; rfl), (Ch.refl (No) w)⟩
theorem ref11_up (a b c d : Nat) (q : Nat) (b9 : Bool) (w : World) (wb : Bk w q #[.bool b9] 183) :
  Calls prog 235 #[Kh q, .complex .f64 a b, .complex .f64 c d] w (Ret (fun v w' => ∃ x y, v = .complex .f64 x y ∧ cx (x, y) = plusC (cx (a, b)) (timesI (cx (c, d))) ∧ ∃ b8, Bk w' q #[.bool b8] 183 ∧ Ch (Is q) w w')) := by
 refine Ku func235 O ntmps235 O (Kb (Ww O O (Wy ?_)))
 refine Wu O O (Wu O O (Wu O O (Oq (Qi call274 O (ref02_TimesI _ _ _)) O ?_)))
 rintro _ w1 ⟨p1, q1, rfl, F1, c1⟩
 have z1 := c1.size
 have wb_1 := wb.keep c1
 refine Oq (Qi κ231 O (calm_Add _ _ _ _ _ _ _ wb_1)) O ?_
 rintro _ w2 ⟨p2, q2, rfl, F2, b8_2, wb_2, c2⟩
 have z2 := c2.size
 refine Ww O O (Ka (Qp (Qx O O (Kx ?_))))
 have CH_1 := (Ch.refl (Is q) w).and c1
 have CH_2 : Ch (Is q) w w2 := CH_1.then c2
 exact ⟨_, _, O, (by rw [F2, F1]), _, wb_2, CH_2⟩
theorem ref11_down (a b c d : Nat) (q : Nat) (b9 : Bool) (w : World) (wb : Bk w q #[.bool b9] 183) :
  Calls prog 234 #[Kh q, .complex .f64 a b, .complex .f64 c d] w (Ret (fun v w' => ∃ x y, v = .complex .f64 x y ∧ cx (x, y) = plusC (cx (a, b)) (minusI (cx (c, d))) ∧ ∃ b8, Bk w' q #[.bool b8] 183 ∧ Ch (Is q) w w')) := by
 refine Ku func234 O ntmps234 O (Kb (Ww O O (Wy ?_)))
 refine Wu O O (Wu O O (Wu O O (Oq (Qi call86 O (ref02_MinusI _ _ _)) O ?_)))
 rintro _ w1 ⟨p1, q1, rfl, F1, c1⟩
 have z1 := c1.size
 have wb_1 := wb.keep c1
 refine Oq (Qi κ231 O (calm_Add _ _ _ _ _ _ _ wb_1)) O ?_
 rintro _ w2 ⟨p2, q2, rfl, F2, b8_2, wb_2, c2⟩
 have z2 := c2.size
 refine Ww O O (Ka (Qp (Qx O O (Kx ?_))))
 have CH_1 := (Ch.refl (Is q) w).and c1
 have CH_2 : Ch (Is q) w w2 := CH_1.then c2
 exact ⟨_, _, O, (by rw [F2, F1]), _, wb_2, CH_2⟩
set_option maxHeartbeats 1000000 in
theorem ref11_two (S : Nat → Prop) (A : Option Addr) (c : Nat) (x y : CB) (q : Nat) (b9 : Bool) (w : World) (wb : Bk w q #[.bool b9] 183) (sl : SlR S w A 2 1 ([x, y].map cxV)) (hSq : ∀ z, S z → ¬ z = q) :
  Calls prog 176 #[Kh q, .slice A 2 c] w (Ret (fun r w' => ∃ g B k zs, r = .slice B 2 k ∧ CR 33 w' g B 2 k zs ∧ zs.map cx = flyG ([x, y].map cx) ∧ w.heap.size < g ∧ ∃ b8, Bk w' q #[.bool b8] 183 ∧ Ch (Is q) w w')) := by
 refine Ku func176 O ntmps176 O (Kb (Ww O O (Wz (Kj 17 [0, 2, 4, 6, 8, 10, 12, 16, 18, 20, 22, 24, 26, 28, 15, 31, 33] (Is q) ?_))))
 intro w1 c1 z1
 have wb_1 := wb.keep c1
 have sl_1 := sl.keep c1
 refine Wv O O (Wv O O ?_)
 refine Wt (fun hS => Qs υ31 ς33 O O ((sl_1.to hS (by first | exact fun _ _ _ _ => id | (intro z h1 h2 hx h3; have := hSq z h2; rcases h3 with h3 | h3 <;> omega) | (intro z h1 h2 hx h3; have := hSq z h2; omega) | (intro z h1 h2 hx h3; exact hSq z h2 h3))).ne (by omega))) O ?_
 refine Wt (fun hS => Qg ι33 O ((sl_1.to hS (by first | exact fun _ _ _ _ => id | (intro z h1 h2 hx h3; have := hSq z h2; rcases h3 with h3 | h3 <;> omega) | (intro z h1 h2 hx h3; have := hSq z h2; omega) | (intro z h1 h2 hx h3; exact hSq z h2 h3))).getC (by omega) (by omega))) O ?_
 refine Wv O O ?_
 refine Wt (fun hS => Qs υ31 ς33 O O ((sl_1.to hS (by first | exact fun _ _ _ _ => id | (intro z h1 h2 hx h3; have := hSq z h2; rcases h3 with h3 | h3 <;> omega) | (intro z h1 h2 hx h3; have := hSq z h2; omega) | (intro z h1 h2 hx h3; exact hSq z h2 h3))).ne (by omega))) O ?_
 refine Wt (fun hS => Qg ι33 O ((sl_1.to hS (by first | exact fun _ _ _ _ => id | (intro z h1 h2 hx h3; have := hSq z h2; rcases h3 with h3 | h3 <;> omega) | (intro z h1 h2 hx h3; have := hSq z h2; omega) | (intro z h1 h2 hx h3; exact hSq z h2 h3))).getC (by omega) (by omega))) O ?_
 refine Wv O O (Wv O O ?_)
 refine Wt (fun hS => Qs υ31 ς33 O O ((sl_1.to hS (by first | exact fun _ _ _ _ => id | (intro z h1 h2 hx h3; have := hSq z h2; rcases h3 with h3 | h3 <;> omega) | (intro z h1 h2 hx h3; have := hSq z h2; omega) | (intro z h1 h2 hx h3; exact hSq z h2 h3))).ne (by omega))) O ?_
 refine Wt (fun hS => Qg ι33 O ((sl_1.to hS (by first | exact fun _ _ _ _ => id | (intro z h1 h2 hx h3; have := hSq z h2; rcases h3 with h3 | h3 <;> omega) | (intro z h1 h2 hx h3; have := hSq z h2; omega) | (intro z h1 h2 hx h3; exact hSq z h2 h3))).getC (by omega) (by omega))) O ?_
 refine Wv O O ?_
 refine Wt (fun hS => Qs υ31 ς33 O O ((sl_1.to hS (by first | exact fun _ _ _ _ => id | (intro z h1 h2 hx h3; have := hSq z h2; rcases h3 with h3 | h3 <;> omega) | (intro z h1 h2 hx h3; have := hSq z h2; omega) | (intro z h1 h2 hx h3; exact hSq z h2 h3))).ne (by omega))) O ?_
 refine Wt (fun hS => Qg ι33 O ((sl_1.to hS (by first | exact fun _ _ _ _ => id | (intro z h1 h2 hx h3; have := hSq z h2; rcases h3 with h3 | h3 <;> omega) | (intro z h1 h2 hx h3; have := hSq z h2; omega) | (intro z h1 h2 hx h3; exact hSq z h2 h3))).getC (by omega) (by omega))) O ?_
 refine Hq (Qi κ231 O (calm_Add _ _ _ _ _ _ _ wb_1)) O ?_
 rintro _ w2 ⟨p2, q2, rfl, F2, b8_2, wb_2, c2⟩
 have z2 := c2.size
 have RD_2 : Ch (Is q) w1 w2 := (Ch.refl (Is q) w1).then c2
 refine ⟨RD_2, ?_⟩
 refine Hq (Qi κ232 O (calm_Sub _ _ _ _ _ _ _ wb_2)) O ?_
 rintro _ w3 ⟨p3, q3, rfl, F3, b8_3, wb_3, c3⟩
 have z3 := c3.size
 have RD_3 : Ch (Is q) w1 w3 := RD_2.then c3
 refine ⟨RD_3, ?_⟩
 refine Kr 1 2 (Kl υ31 inf33w100 O O) O ?_
 intro p4 w4 l21 l21o c4 e4 z4
 have RD_4 := RD_3.and c4
 refine ⟨RD_4, ?_⟩
 refine Cj (Ww O O (Qf (Ca (Qa (Qp (Qx O O (Kx ?_)))))))
 have wb_4 := wb_3.keep c4
 have CH_1 := (Ch.refl (Is q) w).and c1
 have CH_2 : Ch (Is q) w w2 := CH_1.then c2
 have CH_3 : Ch (Is q) w w3 := CH_2.then c3
 have CH_4 := CH_3.and c4
 exact ⟨_, _, _, [(p2, q2), (p3, q3)], O, l21o, (by simp only [List.map_cons, List.map_nil, F2, F3]; rfl), (by omega), _, wb_4, CH_4⟩
set_option maxHeartbeats 1000000 in
theorem ref11_three (S : Nat → Prop) (A : Option Addr) (c : Nat) (x y u : CB) (q : Nat) (b9 : Bool) (w : World) (wb : Bk w q #[.bool b9] 183) (sl : SlR S w A 3 1 ([x, y, u].map cxV)) (hSq : ∀ z, S z → ¬ z = q) :
  Calls prog 177 #[Kh q, .slice A 3 c] w (Ret (fun r w' => ∃ g B k zs, r = .slice B 3 k ∧ CR 33 w' g B 3 k zs ∧ zs.map cx = flyG ([x, y, u].map cx) ∧ w.heap.size < g ∧ ∃ b8, Bk w' q #[.bool b8] 183 ∧ Ch (Is q) w w')) := by
 refine Ku func177 O ntmps177 O (Kb (Ww O O (Wz (Kj 11 [0, 2, 4, 6, 8, 10, 12, 14, 16, 18, 20] (No) ?_))))
 intro w1 c1 z1
 have wb_1 := wb.keep c1
 have sl_1 := sl.keep c1
 refine Wv O O (Wt (fun hS => Qs υ31 ς33 O O ((sl_1.keep hS).ne (by omega))) O (Wt (fun hS => Qg ι33 O ((sl_1.keep hS).getC (by omega) (by omega))) O (Wv O O (Wt (fun hS => Qs υ31 ς33 O O ((sl_1.keep hS).ne (by omega))) O (Wt (fun hS => Qg ι33 O ((sl_1.keep hS).getC (by omega) (by omega))) O (Wv O O (Wt (fun hS => Qs υ31 ς33 O O ((sl_1.keep hS).ne (by omega))) O ?_)))))))
 refine Wt (fun hS => Qg ι33 O ((sl_1.keep hS).getC (by omega) (by omega))) O (Wx O O (Wx O O (Cj (Ww O O (Qf (Ca (Qa ?_)))))))
 refine Kb (Wu O O (Wu O O (Wu O O (Oq (Qi κ231 O (calm_Add _ _ _ _ _ _ _ wb_1)) O ?_))))
 rintro _ w2 ⟨p2, q2, rfl, F2, b8_2, wb_2, c2⟩
 have z2 := c2.size
 refine Ww O O (Wy (Wu O O (Wu O O (Wu O O ?_))))
 refine Wu O O (Oq (Qi κ232 O (calm_Sub _ _ _ _ _ _ _ wb_2)) O ?_)
 rintro _ w3 ⟨p3, q3, rfl, F3, b8_3, wb_3, c3⟩
 have z3 := c3.size
 refine Om (Wi func43 (by kernel_rfl) O (by kernel_rfl) (by kernel_rfl) O) O (Oq (Qi κ233 O (calm_Times _ _ _ _ _ _ wb_3)) O ?_)
 rintro _ w4 ⟨p4, q4, rfl, F4, b8_4, wb_4, c4⟩
 have z4 := c4.size
 refine Ww O O (Wy (Wu O O (Wu O O (Wu O O ?_))))
 refine Wu O O (Oq (Qi κ233 O (calm_Times _ _ _ _ _ _ wb_4)) O ?_)
 rintro _ w5 ⟨p5, q5, rfl, F5, b8_5, wb_5, c5⟩
 have z5 := c5.size
 refine Oq (Qi κ232 O (calm_Sub _ _ _ _ _ _ _ wb_5)) O ?_
 rintro _ w6 ⟨p6, q6, rfl, F6, b8_6, wb_6, c6⟩
 have z6 := c6.size
 refine Ww O O (Wy (Wu O O (Wu O O (Wu O O ?_))))
 refine Oq (Qi κ231 O (calm_Add _ _ _ _ _ _ _ wb_6)) O ?_
 rintro _ w7 ⟨p7, q7, rfl, F7, b8_7, wb_7, c7⟩
 have z7 := c7.size
 refine Wu O O (Wu O O (Wu O O (Oq (Qi call234 O (ref11_down _ _ _ _ _ _ _ wb_7)) O ?_)))
 rintro _ w8 ⟨p8, q8, rfl, F8, b8_8, wb_8, c8⟩
 have z8 := c8.size
 refine Wu O O (Wu O O (Wu O O (Oq (Qi call235 O (ref11_up _ _ _ _ _ _ _ wb_8)) O ?_)))
 rintro _ w9 ⟨p9, q9, rfl, F9, b8_9, wb_9, c9⟩
 have z9 := c9.size
 refine Kq 1 3 (Kl υ31 inf33w100 O O) O ?_
 intro p10 w10 l49 l49o c10 e10 z10
 refine Ww O O (Ka (Qp (Qx O O (Kx ?_))))
 have wb_10 := wb_9.keep c10
 have CH_1 := (Ch.refl (Is q) w).and c1
 have CH_2 : Ch (Is q) w w2 := CH_1.then c2
 have CH_3 : Ch (Is q) w w3 := CH_2.then c3
 have CH_4 : Ch (Is q) w w4 := CH_3.then c4
 have CH_5 : Ch (Is q) w w5 := CH_4.then c5
 have CH_6 : Ch (Is q) w w6 := CH_5.then c6
 have CH_7 : Ch (Is q) w w7 := CH_6.then c7
 have CH_8 : Ch (Is q) w w8 := CH_7.then c8
 have CH_9 : Ch (Is q) w w9 := CH_8.then c9
 have CH_10 := CH_9.and c10
 exact ⟨_, _, _, [(p7, q7), (p8, q8), (p9, q9)], O, l49o, (by simp only [List.map_cons, List.map_nil, F2, F3, F4, F5, F6, F7, F8, F9]; rfl), (by omega), _, wb_10, CH_10⟩
set_option maxHeartbeats 1000000 in
theorem ref11_four (S : Nat → Prop) (A : Option Addr) (c : Nat) (x y u v : CB) (q : Nat) (b9 : Bool) (w : World) (wb : Bk w q #[.bool b9] 183) (sl : SlR S w A 4 1 ([x, y, u, v].map cxV)) (hSq : ∀ z, S z → ¬ z = q) :
  Calls prog 178 #[Kh q, .slice A 4 c] w (Ret (fun r w' => ∃ g B k zs, r = .slice B 4 k ∧ CR 33 w' g B 4 k zs ∧ zs.map cx = flyG ([x, y, u, v].map cx) ∧ w.heap.size < g ∧ ∃ b8, Bk w' q #[.bool b8] 183 ∧ Ch (Is q) w w')) := by
 refine Ku func178 O ntmps178 O (Kb (Ww O O (Wz (Kj 8 [0, 2, 4, 6, 8, 10, 12, 15] (Is q) ?_))))
 intro w1 c1 z1
 have wb_1 := wb.keep c1
 have sl_1 := sl.keep c1
 refine Wv O O (Wv O O ?_)
 refine Wt (fun hS => Qs υ31 ς33 O O ((sl_1.to hS (by first | exact fun _ _ _ _ => id | (intro z h1 h2 hx h3; have := hSq z h2; rcases h3 with h3 | h3 <;> omega) | (intro z h1 h2 hx h3; have := hSq z h2; omega) | (intro z h1 h2 hx h3; exact hSq z h2 h3))).ne (by omega))) O ?_
 refine Wt (fun hS => Qg ι33 O ((sl_1.to hS (by first | exact fun _ _ _ _ => id | (intro z h1 h2 hx h3; have := hSq z h2; rcases h3 with h3 | h3 <;> omega) | (intro z h1 h2 hx h3; have := hSq z h2; omega) | (intro z h1 h2 hx h3; exact hSq z h2 h3))).getC (by omega) (by omega))) O ?_
 refine Wv O O ?_
 refine Wt (fun hS => Qs υ31 ς33 O O ((sl_1.to hS (by first | exact fun _ _ _ _ => id | (intro z h1 h2 hx h3; have := hSq z h2; rcases h3 with h3 | h3 <;> omega) | (intro z h1 h2 hx h3; have := hSq z h2; omega) | (intro z h1 h2 hx h3; exact hSq z h2 h3))).ne (by omega))) O ?_
 refine Wt (fun hS => Qg ι33 O ((sl_1.to hS (by first | exact fun _ _ _ _ => id | (intro z h1 h2 hx h3; have := hSq z h2; rcases h3 with h3 | h3 <;> omega) | (intro z h1 h2 hx h3; have := hSq z h2; omega) | (intro z h1 h2 hx h3; exact hSq z h2 h3))).getC (by omega) (by omega))) O ?_
 refine Hq (Qi κ231 O (calm_Add _ _ _ _ _ _ _ wb_1)) O ?_
 rintro _ w2 ⟨p2, q2, rfl, F2, b8_2, wb_2, c2⟩
 have z2 := c2.size
 have RD_2 : Ch (Is q) w1 w2 := (Ch.refl (Is q) w1).then c2
 refine ⟨RD_2, ?_⟩
 refine Cj (Ww O O (Qf (Ca (Qa (Qe (Kj 8 [0, 2, 4, 6, 8, 10, 12, 15] (Is q) ?_))))))
 intro w3 c3 z3
 have wb_3 := wb_2.keep c3
 have sl_2 := sl_1.to c2 (by first | exact fun _ _ _ _ => id | (intro z h1 h2 hx h3; have := hSq z h2; rcases h3 with h3 | h3 <;> omega) | (intro z h1 h2 hx h3; have := hSq z h2; omega) | (intro z h1 h2 hx h3; exact hSq z h2 h3))
 have sl_3 := sl_2.keep c3
 refine Wv O O (Wv O O ?_)
 refine Wt (fun hS => Qs υ31 ς33 O O ((sl_3.to hS (by first | exact fun _ _ _ _ => id | (intro z h1 h2 hx h3; have := hSq z h2; rcases h3 with h3 | h3 <;> omega) | (intro z h1 h2 hx h3; have := hSq z h2; omega) | (intro z h1 h2 hx h3; exact hSq z h2 h3))).ne (by omega))) O ?_
 refine Wt (fun hS => Qg ι33 O ((sl_3.to hS (by first | exact fun _ _ _ _ => id | (intro z h1 h2 hx h3; have := hSq z h2; rcases h3 with h3 | h3 <;> omega) | (intro z h1 h2 hx h3; have := hSq z h2; omega) | (intro z h1 h2 hx h3; exact hSq z h2 h3))).getC (by omega) (by omega))) O ?_
 refine Wv O O ?_
 refine Wt (fun hS => Qs υ31 ς33 O O ((sl_3.to hS (by first | exact fun _ _ _ _ => id | (intro z h1 h2 hx h3; have := hSq z h2; rcases h3 with h3 | h3 <;> omega) | (intro z h1 h2 hx h3; have := hSq z h2; omega) | (intro z h1 h2 hx h3; exact hSq z h2 h3))).ne (by omega))) O ?_
 refine Wt (fun hS => Qg ι33 O ((sl_3.to hS (by first | exact fun _ _ _ _ => id | (intro z h1 h2 hx h3; have := hSq z h2; rcases h3 with h3 | h3 <;> omega) | (intro z h1 h2 hx h3; have := hSq z h2; omega) | (intro z h1 h2 hx h3; exact hSq z h2 h3))).getC (by omega) (by omega))) O ?_
 refine Hq (Qi κ232 O (calm_Sub _ _ _ _ _ _ _ wb_3)) O ?_
 rintro _ w4 ⟨p4, q4, rfl, F4, b8_4, wb_4, c4⟩
 have z4 := c4.size
 have RD_4 : Ch (Is q) w3 w4 := (Ch.refl (Is q) w3).then c4
 refine ⟨RD_4, ?_⟩
 refine Cj (Ww O O (Qf (Ca (Qa (Qe (Kj 8 [0, 2, 4, 6, 8, 10, 12, 15] (Is q) ?_))))))
 intro w5 c5 z5
 have wb_5 := wb_4.keep c5
 have sl_4 := sl_3.to c4 (by first | exact fun _ _ _ _ => id | (intro z h1 h2 hx h3; have := hSq z h2; rcases h3 with h3 | h3 <;> omega) | (intro z h1 h2 hx h3; have := hSq z h2; omega) | (intro z h1 h2 hx h3; exact hSq z h2 h3))
 have sl_5 := sl_4.keep c5
 refine Wv O O (Wv O O ?_)
 refine Wt (fun hS => Qs υ31 ς33 O O ((sl_5.to hS (by first | exact fun _ _ _ _ => id | (intro z h1 h2 hx h3; have := hSq z h2; rcases h3 with h3 | h3 <;> omega) | (intro z h1 h2 hx h3; have := hSq z h2; omega) | (intro z h1 h2 hx h3; exact hSq z h2 h3))).ne (by omega))) O ?_
 refine Wt (fun hS => Qg ι33 O ((sl_5.to hS (by first | exact fun _ _ _ _ => id | (intro z h1 h2 hx h3; have := hSq z h2; rcases h3 with h3 | h3 <;> omega) | (intro z h1 h2 hx h3; have := hSq z h2; omega) | (intro z h1 h2 hx h3; exact hSq z h2 h3))).getC (by omega) (by omega))) O ?_
 refine Wv O O ?_
 refine Wt (fun hS => Qs υ31 ς33 O O ((sl_5.to hS (by first | exact fun _ _ _ _ => id | (intro z h1 h2 hx h3; have := hSq z h2; rcases h3 with h3 | h3 <;> omega) | (intro z h1 h2 hx h3; have := hSq z h2; omega) | (intro z h1 h2 hx h3; exact hSq z h2 h3))).ne (by omega))) O ?_
 refine Wt (fun hS => Qg ι33 O ((sl_5.to hS (by first | exact fun _ _ _ _ => id | (intro z h1 h2 hx h3; have := hSq z h2; rcases h3 with h3 | h3 <;> omega) | (intro z h1 h2 hx h3; have := hSq z h2; omega) | (intro z h1 h2 hx h3; exact hSq z h2 h3))).getC (by omega) (by omega))) O ?_
 refine Hq (Qi κ231 O (calm_Add _ _ _ _ _ _ _ wb_5)) O ?_
 rintro _ w6 ⟨p6, q6, rfl, F6, b8_6, wb_6, c6⟩
 have z6 := c6.size
 have RD_6 : Ch (Is q) w5 w6 := (Ch.refl (Is q) w5).then c6
 refine ⟨RD_6, ?_⟩
 refine Cj (Ww O O (Qf (Ca (Qa (Qe (Kj 8 [0, 2, 4, 6, 8, 10, 12, 15] (Is q) ?_))))))
 intro w7 c7 z7
 have wb_7 := wb_6.keep c7
 have sl_6 := sl_5.to c6 (by first | exact fun _ _ _ _ => id | (intro z h1 h2 hx h3; have := hSq z h2; rcases h3 with h3 | h3 <;> omega) | (intro z h1 h2 hx h3; have := hSq z h2; omega) | (intro z h1 h2 hx h3; exact hSq z h2 h3))
 have sl_7 := sl_6.keep c7
 refine Wv O O (Wv O O ?_)
 refine Wt (fun hS => Qs υ31 ς33 O O ((sl_7.to hS (by first | exact fun _ _ _ _ => id | (intro z h1 h2 hx h3; have := hSq z h2; rcases h3 with h3 | h3 <;> omega) | (intro z h1 h2 hx h3; have := hSq z h2; omega) | (intro z h1 h2 hx h3; exact hSq z h2 h3))).ne (by omega))) O ?_
 refine Wt (fun hS => Qg ι33 O ((sl_7.to hS (by first | exact fun _ _ _ _ => id | (intro z h1 h2 hx h3; have := hSq z h2; rcases h3 with h3 | h3 <;> omega) | (intro z h1 h2 hx h3; have := hSq z h2; omega) | (intro z h1 h2 hx h3; exact hSq z h2 h3))).getC (by omega) (by omega))) O ?_
 refine Wv O O ?_
 refine Wt (fun hS => Qs υ31 ς33 O O ((sl_7.to hS (by first | exact fun _ _ _ _ => id | (intro z h1 h2 hx h3; have := hSq z h2; rcases h3 with h3 | h3 <;> omega) | (intro z h1 h2 hx h3; have := hSq z h2; omega) | (intro z h1 h2 hx h3; exact hSq z h2 h3))).ne (by omega))) O ?_
 refine Wt (fun hS => Qg ι33 O ((sl_7.to hS (by first | exact fun _ _ _ _ => id | (intro z h1 h2 hx h3; have := hSq z h2; rcases h3 with h3 | h3 <;> omega) | (intro z h1 h2 hx h3; have := hSq z h2; omega) | (intro z h1 h2 hx h3; exact hSq z h2 h3))).getC (by omega) (by omega))) O ?_
 refine Hq (Qi κ232 O (calm_Sub _ _ _ _ _ _ _ wb_7)) O ?_
 rintro _ w8 ⟨p8, q8, rfl, F8, b8_8, wb_8, c8⟩
 have z8 := c8.size
 have RD_8 : Ch (Is q) w7 w8 := (Ch.refl (Is q) w7).then c8
 refine ⟨RD_8, ?_⟩
 refine Cj (Ww O O (Qf (Ca (Qa (Kb (Wu O O ?_))))))
 refine Wu O O (Wu O O (Oq (Qi κ231 O (calm_Add _ _ _ _ _ _ _ wb_8)) O ?_))
 rintro _ w9 ⟨p9, q9, rfl, F9, b8_9, wb_9, c9⟩
 have z9 := c9.size
 refine Wu O O (Wu O O (Wu O O (Oq (Qi call234 O (ref11_down _ _ _ _ _ _ _ wb_9)) O ?_)))
 rintro _ w10 ⟨p10, q10, rfl, F10, b8_10, wb_10, c10⟩
 have z10 := c10.size
 refine Wu O O (Wu O O (Wu O O (Oq (Qi κ232 O (calm_Sub _ _ _ _ _ _ _ wb_10)) O ?_)))
 rintro _ w11 ⟨p11, q11, rfl, F11, b8_11, wb_11, c11⟩
 have z11 := c11.size
 refine Wu O O (Wu O O (Wu O O (Oq (Qi call235 O (ref11_up _ _ _ _ _ _ _ wb_11)) O ?_)))
 rintro _ w12 ⟨p12, q12, rfl, F12, b8_12, wb_12, c12⟩
 have z12 := c12.size
 refine Kq 1 4 (Kl υ31 inf33w100 O O) O ?_
 intro p13 w13 l57 l57o c13 e13 z13
 refine Ww O O (Ka (Qp (Qx O O (Kx ?_))))
 have wb_13 := wb_12.keep c13
 have CH_1 := (Ch.refl (Is q) w).and c1
 have CH_2 : Ch (Is q) w w2 := CH_1.then c2
 have CH_3 := CH_2.and c3
 have CH_4 : Ch (Is q) w w4 := CH_3.then c4
 have CH_5 := CH_4.and c5
 have CH_6 : Ch (Is q) w w6 := CH_5.then c6
 have CH_7 := CH_6.and c7
 have CH_8 : Ch (Is q) w w8 := CH_7.then c8
 have CH_9 : Ch (Is q) w w9 := CH_8.then c9
 have CH_10 : Ch (Is q) w w10 := CH_9.then c10
 have CH_11 : Ch (Is q) w w11 := CH_10.then c11
 have CH_12 : Ch (Is q) w w12 := CH_11.then c12
 have CH_13 := CH_12.and c13
 exact ⟨_, _, _, [(p9, q9), (p10, q10), (p11, q11), (p12, q12)], O, l57o, (by simp only [List.map_cons, List.map_nil, F2, F4, F6, F8, F9, F10, F11, F12]; rfl), (by omega), _, wb_13, CH_13⟩
set_option maxHeartbeats 1000000 in
theorem ref11_five (S : Nat → Prop) (A : Option Addr) (c : Nat) (x y u v z : CB) (q : Nat) (b9 : Bool) (w : World) (wb : Bk w q #[.bool b9] 183) (sl : SlR S w A 5 1 ([x, y, u, v, z].map cxV)) (hSq : ∀ z, S z → ¬ z = q) :
  Calls prog 179 #[Kh q, .slice A 5 c] w (Ret (fun r w' => ∃ g B k zs, r = .slice B 5 k ∧ CR 33 w' g B 5 k zs ∧ zs.map cx = flyG ([x, y, u, v, z].map cx) ∧ w.heap.size < g ∧ ∃ b8, Bk w' q #[.bool b8] 183 ∧ Ch (Is q) w w')) := by
 refine Ku func179 O ntmps179 O (Kb (Ww O O (Wy ?_)))
 refine Om (Wi func43 (by kernel_rfl) O (by kernel_rfl) (by kernel_rfl) O) O (Ww O O (Wy (Om (Wi func43 (by kernel_rfl) O (by kernel_rfl) (by kernel_rfl) O) O (Ww O O ?_))))
 refine Wy (Om (Wi func43 (by kernel_rfl) O (by kernel_rfl) (by kernel_rfl) O) O (Ww O O (Ka ?_)))
 refine Kb (Om (Wi func43 (by kernel_rfl) O (by kernel_rfl) (by kernel_rfl) O) O (Ww O O (Wy ?_)))
 refine Wu O O (Om (Qs υ31 ς33 O O (sl.ne (by omega))) O (Om (Qg ι33 O (sl.getC (by omega) (by omega))) O (Ww O O (Wz (Kj 17 [0, 2, 4, 6, 8, 10, 12, 16, 18, 20, 22, 24, 26, 28, 15, 31, 32] (Is q) ?_)))))
 intro w1 c1 z1
 have wb_1 := wb.keep c1
 have sl_1 := sl.keep c1
 refine Wv O O (Wv O O ?_)
 refine Wt (fun hS => Qs υ31 ς33 O O ((sl_1.to hS (by first | exact fun _ _ _ _ => id | (intro z h1 h2 hx h3; have := hSq z h2; rcases h3 with h3 | h3 <;> omega) | (intro z h1 h2 hx h3; have := hSq z h2; omega) | (intro z h1 h2 hx h3; exact hSq z h2 h3))).ne (by omega))) O ?_
 refine Wt (fun hS => Qg ι33 O ((sl_1.to hS (by first | exact fun _ _ _ _ => id | (intro z h1 h2 hx h3; have := hSq z h2; rcases h3 with h3 | h3 <;> omega) | (intro z h1 h2 hx h3; have := hSq z h2; omega) | (intro z h1 h2 hx h3; exact hSq z h2 h3))).getC (by omega) (by omega))) O ?_
 refine Wv O O ?_
 refine Wt (fun hS => Qs υ31 ς33 O O ((sl_1.to hS (by first | exact fun _ _ _ _ => id | (intro z h1 h2 hx h3; have := hSq z h2; rcases h3 with h3 | h3 <;> omega) | (intro z h1 h2 hx h3; have := hSq z h2; omega) | (intro z h1 h2 hx h3; exact hSq z h2 h3))).ne (by omega))) O ?_
 refine Wt (fun hS => Qg ι33 O ((sl_1.to hS (by first | exact fun _ _ _ _ => id | (intro z h1 h2 hx h3; have := hSq z h2; rcases h3 with h3 | h3 <;> omega) | (intro z h1 h2 hx h3; have := hSq z h2; omega) | (intro z h1 h2 hx h3; exact hSq z h2 h3))).getC (by omega) (by omega))) O ?_
 refine Wv O O (Wv O O ?_)
 refine Wt (fun hS => Qs υ31 ς33 O O ((sl_1.to hS (by first | exact fun _ _ _ _ => id | (intro z h1 h2 hx h3; have := hSq z h2; rcases h3 with h3 | h3 <;> omega) | (intro z h1 h2 hx h3; have := hSq z h2; omega) | (intro z h1 h2 hx h3; exact hSq z h2 h3))).ne (by omega))) O ?_
 refine Wt (fun hS => Qg ι33 O ((sl_1.to hS (by first | exact fun _ _ _ _ => id | (intro z h1 h2 hx h3; have := hSq z h2; rcases h3 with h3 | h3 <;> omega) | (intro z h1 h2 hx h3; have := hSq z h2; omega) | (intro z h1 h2 hx h3; exact hSq z h2 h3))).getC (by omega) (by omega))) O ?_
 refine Wv O O ?_
 refine Wt (fun hS => Qs υ31 ς33 O O ((sl_1.to hS (by first | exact fun _ _ _ _ => id | (intro z h1 h2 hx h3; have := hSq z h2; rcases h3 with h3 | h3 <;> omega) | (intro z h1 h2 hx h3; have := hSq z h2; omega) | (intro z h1 h2 hx h3; exact hSq z h2 h3))).ne (by omega))) O ?_
 refine Wt (fun hS => Qg ι33 O ((sl_1.to hS (by first | exact fun _ _ _ _ => id | (intro z h1 h2 hx h3; have := hSq z h2; rcases h3 with h3 | h3 <;> omega) | (intro z h1 h2 hx h3; have := hSq z h2; omega) | (intro z h1 h2 hx h3; exact hSq z h2 h3))).getC (by omega) (by omega))) O ?_
 refine Hq (Qi κ231 O (calm_Add _ _ _ _ _ _ _ wb_1)) O ?_
 rintro _ w2 ⟨p2, q2, rfl, F2, b8_2, wb_2, c2⟩
 have z2 := c2.size
 have RD_2 : Ch (Is q) w1 w2 := (Ch.refl (Is q) w1).then c2
 refine ⟨RD_2, ?_⟩
 refine Hq (Qi κ232 O (calm_Sub _ _ _ _ _ _ _ wb_2)) O ?_
 rintro _ w3 ⟨p3, q3, rfl, F3, b8_3, wb_3, c3⟩
 have z3 := c3.size
 have RD_3 : Ch (Is q) w1 w3 := RD_2.then c3
 refine ⟨RD_3, ?_⟩
 refine Wx O O (Cj (Ww O O (Qf (Ca (Qa (Qe (Kj 17 [0, 2, 4, 6, 8, 10, 12, 16, 18, 20, 22, 24, 26, 28, 15, 31, 32] (Is q) ?_)))))))
 intro w4 c4 z4
 have wb_4 := wb_3.keep c4
 have sl_2 := sl_1.to c2 (by first | exact fun _ _ _ _ => id | (intro z h1 h2 hx h3; have := hSq z h2; rcases h3 with h3 | h3 <;> omega) | (intro z h1 h2 hx h3; have := hSq z h2; omega) | (intro z h1 h2 hx h3; exact hSq z h2 h3))
 have sl_3 := sl_2.to c3 (by first | exact fun _ _ _ _ => id | (intro z h1 h2 hx h3; have := hSq z h2; rcases h3 with h3 | h3 <;> omega) | (intro z h1 h2 hx h3; have := hSq z h2; omega) | (intro z h1 h2 hx h3; exact hSq z h2 h3))
 have sl_4 := sl_3.keep c4
 refine Wv O O (Wv O O ?_)
 refine Wt (fun hS => Qs υ31 ς33 O O ((sl_4.to hS (by first | exact fun _ _ _ _ => id | (intro z h1 h2 hx h3; have := hSq z h2; rcases h3 with h3 | h3 <;> omega) | (intro z h1 h2 hx h3; have := hSq z h2; omega) | (intro z h1 h2 hx h3; exact hSq z h2 h3))).ne (by omega))) O ?_
 refine Wt (fun hS => Qg ι33 O ((sl_4.to hS (by first | exact fun _ _ _ _ => id | (intro z h1 h2 hx h3; have := hSq z h2; rcases h3 with h3 | h3 <;> omega) | (intro z h1 h2 hx h3; have := hSq z h2; omega) | (intro z h1 h2 hx h3; exact hSq z h2 h3))).getC (by omega) (by omega))) O ?_
 refine Wv O O ?_
 refine Wt (fun hS => Qs υ31 ς33 O O ((sl_4.to hS (by first | exact fun _ _ _ _ => id | (intro z h1 h2 hx h3; have := hSq z h2; rcases h3 with h3 | h3 <;> omega) | (intro z h1 h2 hx h3; have := hSq z h2; omega) | (intro z h1 h2 hx h3; exact hSq z h2 h3))).ne (by omega))) O ?_
 refine Wt (fun hS => Qg ι33 O ((sl_4.to hS (by first | exact fun _ _ _ _ => id | (intro z h1 h2 hx h3; have := hSq z h2; rcases h3 with h3 | h3 <;> omega) | (intro z h1 h2 hx h3; have := hSq z h2; omega) | (intro z h1 h2 hx h3; exact hSq z h2 h3))).getC (by omega) (by omega))) O ?_
 refine Wv O O (Wv O O ?_)
 refine Wt (fun hS => Qs υ31 ς33 O O ((sl_4.to hS (by first | exact fun _ _ _ _ => id | (intro z h1 h2 hx h3; have := hSq z h2; rcases h3 with h3 | h3 <;> omega) | (intro z h1 h2 hx h3; have := hSq z h2; omega) | (intro z h1 h2 hx h3; exact hSq z h2 h3))).ne (by omega))) O ?_
 refine Wt (fun hS => Qg ι33 O ((sl_4.to hS (by first | exact fun _ _ _ _ => id | (intro z h1 h2 hx h3; have := hSq z h2; rcases h3 with h3 | h3 <;> omega) | (intro z h1 h2 hx h3; have := hSq z h2; omega) | (intro z h1 h2 hx h3; exact hSq z h2 h3))).getC (by omega) (by omega))) O ?_
 refine Wv O O ?_
 refine Wt (fun hS => Qs υ31 ς33 O O ((sl_4.to hS (by first | exact fun _ _ _ _ => id | (intro z h1 h2 hx h3; have := hSq z h2; rcases h3 with h3 | h3 <;> omega) | (intro z h1 h2 hx h3; have := hSq z h2; omega) | (intro z h1 h2 hx h3; exact hSq z h2 h3))).ne (by omega))) O ?_
 refine Wt (fun hS => Qg ι33 O ((sl_4.to hS (by first | exact fun _ _ _ _ => id | (intro z h1 h2 hx h3; have := hSq z h2; rcases h3 with h3 | h3 <;> omega) | (intro z h1 h2 hx h3; have := hSq z h2; omega) | (intro z h1 h2 hx h3; exact hSq z h2 h3))).getC (by omega) (by omega))) O ?_
 refine Hq (Qi κ231 O (calm_Add _ _ _ _ _ _ _ wb_4)) O ?_
 rintro _ w5 ⟨p5, q5, rfl, F5, b8_5, wb_5, c5⟩
 have z5 := c5.size
 have RD_5 : Ch (Is q) w4 w5 := (Ch.refl (Is q) w4).then c5
 refine ⟨RD_5, ?_⟩
 refine Hq (Qi κ232 O (calm_Sub _ _ _ _ _ _ _ wb_5)) O ?_
 rintro _ w6 ⟨p6, q6, rfl, F6, b8_6, wb_6, c6⟩
 have z6 := c6.size
 have RD_6 : Ch (Is q) w4 w6 := RD_5.then c6
 refine ⟨RD_6, ?_⟩
 refine Wx O O (Cj (Ww O O (Qf (Ca (Qa (Kb ?_))))))
 refine Wu O O (Wu O O (Wu O O (Wu O O (Wu O O (Wu O O (Oq (Qi κ233 O (calm_Times _ _ _ _ _ _ wb_6)) O ?_))))))
 rintro _ w7 ⟨p7, q7, rfl, F7, b8_7, wb_7, c7⟩
 have z7 := c7.size
 refine Wu O O (Wu O O (Wu O O (Oq (Qi κ233 O (calm_Times _ _ _ _ _ _ wb_7)) O ?_)))
 rintro _ w8 ⟨p8, q8, rfl, F8, b8_8, wb_8, c8⟩
 have z8 := c8.size
 refine Oq (Qi κ231 O (calm_Add _ _ _ _ _ _ _ wb_8)) O ?_
 rintro _ w9 ⟨p9, q9, rfl, F9, b8_9, wb_9, c9⟩
 have z9 := c9.size
 refine Oq (Qi κ231 O (calm_Add _ _ _ _ _ _ _ wb_9)) O ?_
 rintro _ w10 ⟨p10, q10, rfl, F10, b8_10, wb_10, c10⟩
 have z10 := c10.size
 refine Ww O O (Wy (Wu O O (Wu O O (Wu O O ?_))))
 refine Wu O O (Wu O O (Wu O O (Oq (Qi κ233 O (calm_Times _ _ _ _ _ _ wb_10)) O ?_)))
 rintro _ w11 ⟨p11, q11, rfl, F11, b8_11, wb_11, c11⟩
 have z11 := c11.size
 refine Wu O O (Wu O O (Wu O O (Oq (Qi κ233 O (calm_Times _ _ _ _ _ _ wb_11)) O ?_)))
 rintro _ w12 ⟨p12, q12, rfl, F12, b8_12, wb_12, c12⟩
 have z12 := c12.size
 refine Oq (Qi κ231 O (calm_Add _ _ _ _ _ _ _ wb_12)) O ?_
 rintro _ w13 ⟨p13, q13, rfl, F13, b8_13, wb_13, c13⟩
 have z13 := c13.size
 refine Oq (Qi κ231 O (calm_Add _ _ _ _ _ _ _ wb_13)) O ?_
 rintro _ w14 ⟨p14, q14, rfl, F14, b8_14, wb_14, c14⟩
 have z14 := c14.size
 refine Ww O O (Wy (Wu O O (Wu O O (Wu O O ?_))))
 refine Wu O O (Oq (Qi κ233 O (calm_Times _ _ _ _ _ _ wb_14)) O ?_)
 rintro _ w15 ⟨p15, q15, rfl, F15, b8_15, wb_15, c15⟩
 have z15 := c15.size
 refine Wu O O (Wu O O (Wu O O (Oq (Qi κ233 O (calm_Times _ _ _ _ _ _ wb_15)) O ?_)))
 rintro _ w16 ⟨p16, q16, rfl, F16, b8_16, wb_16, c16⟩
 have z16 := c16.size
 refine Oq (Qi κ231 O (calm_Add _ _ _ _ _ _ _ wb_16)) O ?_
 rintro _ w17 ⟨p17, q17, rfl, F17, b8_17, wb_17, c17⟩
 have z17 := c17.size
 refine Ww O O (Wy (Wu O O (Wu O O (Wu O O ?_))))
 refine Wu O O (Oq (Qi κ233 O (calm_Times _ _ _ _ _ _ wb_17)) O ?_)
 rintro _ w18 ⟨p18, q18, rfl, F18, b8_18, wb_18, c18⟩
 have z18 := c18.size
 refine Wu O O (Wu O O (Wu O O (Oq (Qi κ233 O (calm_Times _ _ _ _ _ _ wb_18)) O ?_)))
 rintro _ w19 ⟨p19, q19, rfl, F19, b8_19, wb_19, c19⟩
 have z19 := c19.size
 refine Oq (Qi κ232 O (calm_Sub _ _ _ _ _ _ _ wb_19)) O ?_
 rintro _ w20 ⟨p20, q20, rfl, F20, b8_20, wb_20, c20⟩
 have z20 := c20.size
 refine Ww O O (Wy (Wu O O (Wu O O (Wu O O ?_))))
 refine Wu O O (Wu O O (Oq (Qi κ231 O (calm_Add _ _ _ _ _ _ _ wb_20)) O ?_))
 rintro _ w21 ⟨p21, q21, rfl, F21, b8_21, wb_21, c21⟩
 have z21 := c21.size
 refine Oq (Qi κ231 O (calm_Add _ _ _ _ _ _ _ wb_21)) O ?_
 rintro _ w22 ⟨p22, q22, rfl, F22, b8_22, wb_22, c22⟩
 have z22 := c22.size
 refine Wu O O (Wu O O (Wu O O (Oq (Qi call234 O (ref11_down _ _ _ _ _ _ _ wb_22)) O ?_)))
 rintro _ w23 ⟨p23, q23, rfl, F23, b8_23, wb_23, c23⟩
 have z23 := c23.size
 refine Wu O O (Wu O O (Wu O O (Oq (Qi call234 O (ref11_down _ _ _ _ _ _ _ wb_23)) O ?_)))
 rintro _ w24 ⟨p24, q24, rfl, F24, b8_24, wb_24, c24⟩
 have z24 := c24.size
 refine Wu O O (Wu O O (Wu O O (Oq (Qi call235 O (ref11_up _ _ _ _ _ _ _ wb_24)) O ?_)))
 rintro _ w25 ⟨p25, q25, rfl, F25, b8_25, wb_25, c25⟩
 have z25 := c25.size
 refine Wu O O (Wu O O (Wu O O (Oq (Qi call235 O (ref11_up _ _ _ _ _ _ _ wb_25)) O ?_)))
 rintro _ w26 ⟨p26, q26, rfl, F26, b8_26, wb_26, c26⟩
 have z26 := c26.size
 refine Kq 1 5 (Kl υ31 inf33w100 O O) O ?_
 intro p27 w27 l126 l126o c27 e27 z27
 refine Ww O O (Ka (Qp (Qx O O (Kx ?_))))
 have wb_27 := wb_26.keep c27
 have CH_1 := (Ch.refl (Is q) w).and c1
 have CH_2 : Ch (Is q) w w2 := CH_1.then c2
 have CH_3 : Ch (Is q) w w3 := CH_2.then c3
 have CH_4 := CH_3.and c4
 have CH_5 : Ch (Is q) w w5 := CH_4.then c5
 have CH_6 : Ch (Is q) w w6 := CH_5.then c6
 have CH_7 : Ch (Is q) w w7 := CH_6.then c7
 have CH_8 : Ch (Is q) w w8 := CH_7.then c8
 have CH_9 : Ch (Is q) w w9 := CH_8.then c9
 have CH_10 : Ch (Is q) w w10 := CH_9.then c10
 have CH_11 : Ch (Is q) w w11 := CH_10.then c11
 have CH_12 : Ch (Is q) w w12 := CH_11.then c12
 have CH_13 : Ch (Is q) w w13 := CH_12.then c13
 have CH_14 : Ch (Is q) w w14 := CH_13.then c14
 have CH_15 : Ch (Is q) w w15 := CH_14.then c15
 have CH_16 : Ch (Is q) w w16 := CH_15.then c16
 have CH_17 : Ch (Is q) w w17 := CH_16.then c17
 have CH_18 : Ch (Is q) w w18 := CH_17.then c18
 have CH_19 : Ch (Is q) w w19 := CH_18.then c19
 have CH_20 : Ch (Is q) w w20 := CH_19.then c20
 have CH_21 : Ch (Is q) w w21 := CH_20.then c21
 have CH_22 : Ch (Is q) w w22 := CH_21.then c22
 have CH_23 : Ch (Is q) w w23 := CH_22.then c23
 have CH_24 : Ch (Is q) w w24 := CH_23.then c24
 have CH_25 : Ch (Is q) w w25 := CH_24.then c25
 have CH_26 : Ch (Is q) w w26 := CH_25.then c26
 have CH_27 := CH_26.and c27
 exact ⟨_, _, _, [(p22, q22), (p23, q23), (p24, q24), (p25, q25), (p26, q26)], O, l126o, (by simp only [List.map_cons, List.map_nil, F2, F3, F5, F6, F7, F8, F9, F10, F11, F12, F13, F14, F15, F16, F17, F18, F19, F20, F21, F22, F23, F24, F25, F26]; rfl), (by omega), _, wb_27, CH_27⟩
theorem ref11_Watched2 (S : Nat → Prop) (A : Option Addr) (c : Nat) (x y : CB) (q : Nat) (b9 : Bool) (w : World) (wb : Bk w q #[.bool b9] 183) (sl : SlR S w A 2 1 ([x, y].map cxV)) (hSq : ∀ z, S z → ¬ z = q) :
  Calls prog 146 #[Kh q, .slice A 2 c] w (Ret (fun r w' => ∃ g B k zs, r = .slice B 2 k ∧ CR 33 w' g B 2 k zs ∧ zs.map cx = flyG ([x, y].map cx) ∧ w.heap.size < g ∧ ∃ b8, Bk w' q #[.bool b8] 183 ∧ Ch (Is q) w w')) := by
 refine Ku func146 O ntmps146 O (Kb (Ww O O (Wz (Qe ?_))))
 refine Qb (Wu O O (Om (Cs υ31 O) O (Ka (Qt (Kb ?_)))))
 refine Om (Cg O O) O (Ww O O (Ka (Qj O (fun hc1 => ?_) (fun hc1 => ?_))))
 ·
  refine Kb (Wu O O (Wu O O (Oq (Qi call176 O (ref11_two _ _ _ _ _  _ _ _ wb sl hSq)) O ?_)))
  rintro _ w1 ⟨g1, B1, k1, zs1, rfl, tr1, ht1, hg1, b8_1, wb_1, c1⟩
  have hlo1 := Ow.lt tr1
  have z1 := c1.size
  refine Ww O O (Ka (Qp (Cb (Qw (Qx O O (Kx ?_))))))
  have CH_1 : Ch (Is q) w w1 := (Ch.refl (Is q) w).then c1
  exact ⟨_, _, _, _, O, tr1, ht1, by omega, _, wb_1, CH_1⟩
 omega
theorem ref11_Watched3 (S : Nat → Prop) (A : Option Addr) (c : Nat) (x y u : CB) (q : Nat) (b9 : Bool) (w : World) (wb : Bk w q #[.bool b9] 183) (sl : SlR S w A 3 1 ([x, y, u].map cxV)) (hSq : ∀ z, S z → ¬ z = q) :
  Calls prog 146 #[Kh q, .slice A 3 c] w (Ret (fun r w' => ∃ g B k zs, r = .slice B 3 k ∧ CR 33 w' g B 3 k zs ∧ zs.map cx = flyG ([x, y, u].map cx) ∧ w.heap.size < g ∧ ∃ b8, Bk w' q #[.bool b8] 183 ∧ Ch (Is q) w w')) := by
 refine Ku func146 O ntmps146 O (Kb (Ww O O (Wz (Qe ?_))))
 refine Qb (Wu O O (Om (Cs υ31 O) O (Ka (Qt (Kb ?_)))))
 refine Om (Cg O O) O (Ww O O (Ka (Qj O (fun hc1 => ?_) (fun hc1 => ?_))))
 · omega
 refine Kb (Om (Cg O O) O (Ww O O (Ka (Qj O (fun hc2 => ?_) (fun hc2 => ?_)))))
 ·
  refine Kb (Wu O O (Wu O O (Oq (Qi call177 O (ref11_three _ _ _ _ _ _  _ _ _ wb sl hSq)) O ?_)))
  rintro _ w1 ⟨g1, B1, k1, zs1, rfl, tr1, ht1, hg1, b8_1, wb_1, c1⟩
  have hlo1 := Ow.lt tr1
  have z1 := c1.size
  refine Ww O O (Ka (Qp (Cb (Qw (Qx O O (Kx ?_))))))
  have CH_1 : Ch (Is q) w w1 := (Ch.refl (Is q) w).then c1
  exact ⟨_, _, _, _, O, tr1, ht1, by omega, _, wb_1, CH_1⟩
 omega
theorem ref11_Watched4 (S : Nat → Prop) (A : Option Addr) (c : Nat) (x y u v : CB) (q : Nat) (b9 : Bool) (w : World) (wb : Bk w q #[.bool b9] 183) (sl : SlR S w A 4 1 ([x, y, u, v].map cxV)) (hSq : ∀ z, S z → ¬ z = q) :
  Calls prog 146 #[Kh q, .slice A 4 c] w (Ret (fun r w' => ∃ g B k zs, r = .slice B 4 k ∧ CR 33 w' g B 4 k zs ∧ zs.map cx = flyG ([x, y, u, v].map cx) ∧ w.heap.size < g ∧ ∃ b8, Bk w' q #[.bool b8] 183 ∧ Ch (Is q) w w')) := by
 refine Ku func146 O ntmps146 O (Kb (Ww O O (Wz (Qe ?_))))
 refine Qb (Wu O O (Om (Cs υ31 O) O (Ka (Qt (Kb ?_)))))
 refine Om (Cg O O) O (Ww O O (Ka (Qj O (fun hc1 => ?_) (fun hc1 => ?_))))
 · omega
 refine Kb (Om (Cg O O) O (Ww O O (Ka (Qj O (fun hc2 => ?_) (fun hc2 => ?_)))))
 · omega
 refine Kb (Om (Cg O O) O (Ww O O (Ka (Qj O (fun hc3 => ?_) (fun hc3 => ?_)))))
 ·
  refine Kb (Wu O O (Wu O O (Oq (Qi call178 O (ref11_four _ _ _ _ _ _ _  _ _ _ wb sl hSq)) O ?_)))
  rintro _ w1 ⟨g1, B1, k1, zs1, rfl, tr1, ht1, hg1, b8_1, wb_1, c1⟩
  have hlo1 := Ow.lt tr1
  have z1 := c1.size
  refine Ww O O (Ka (Qp (Cb (Qw (Qx O O (Kx ?_))))))
  have CH_1 : Ch (Is q) w w1 := (Ch.refl (Is q) w).then c1
  exact ⟨_, _, _, _, O, tr1, ht1, by omega, _, wb_1, CH_1⟩
 omega
theorem ref11_Watched5 (S : Nat → Prop) (A : Option Addr) (c : Nat) (x y u v z : CB) (q : Nat) (b9 : Bool) (w : World) (wb : Bk w q #[.bool b9] 183) (sl : SlR S w A 5 1 ([x, y, u, v, z].map cxV)) (hSq : ∀ z, S z → ¬ z = q) :
  Calls prog 146 #[Kh q, .slice A 5 c] w (Ret (fun r w' => ∃ g B k zs, r = .slice B 5 k ∧ CR 33 w' g B 5 k zs ∧ zs.map cx = flyG ([x, y, u, v, z].map cx) ∧ w.heap.size < g ∧ ∃ b8, Bk w' q #[.bool b8] 183 ∧ Ch (Is q) w w')) := by
 refine Ku func146 O ntmps146 O (Kb (Ww O O (Wz (Qe ?_))))
 refine Qb (Wu O O (Om (Cs υ31 O) O (Ka (Qt (Kb ?_)))))
 refine Om (Cg O O) O (Ww O O (Ka (Qj O (fun hc1 => ?_) (fun hc1 => ?_))))
 · omega
 refine Kb (Om (Cg O O) O (Ww O O (Ka (Qj O (fun hc2 => ?_) (fun hc2 => ?_)))))
 · omega
 refine Kb (Om (Cg O O) O (Ww O O (Ka (Qj O (fun hc3 => ?_) (fun hc3 => ?_)))))
 · omega
 refine Kb (Om (Cg O O) O (Ww O O (Ka (Qj O (fun hc4 => ?_) (fun hc4 => ?_)))))
 ·
  refine Kb (Wu O O (Wu O O (Oq (Qi call179 O (ref11_five _ _ _ _ _ _ _ _  _ _ _ wb sl hSq)) O ?_)))
  rintro _ w1 ⟨g1, B1, k1, zs1, rfl, tr1, ht1, hg1, b8_1, wb_1, c1⟩
  have hlo1 := Ow.lt tr1
  have z1 := c1.size
  refine Ww O O (Ka (Qp (Cb (Qw (Qx O O (Kx ?_))))))
  have CH_1 : Ch (Is q) w w1 := (Ch.refl (Is q) w).then c1
  exact ⟨_, _, _, _, O, tr1, ht1, by omega, _, wb_1, CH_1⟩
 omega
theorem ref11_Watched (S : Nat → Prop) (A : Option Addr) (n c : Nat) (h2 : 2 ≤ n) (h5 : n ≤ 5) (zs : List CB) (q : Nat) (b9 : Bool) (w : World) (wb : Bk w q #[.bool b9] 183) (sl : SlR S w A n 1 (zs.map cxV)) (hSq : ∀ z, S z → ¬ z = q) : Calls prog 146 #[.pointer (some ⟨q, 0, none⟩), .slice A n c] w (Ret fun r w' => ∃ g B k os, r = .slice B n k ∧ CR 33 w' g B n k os ∧ os.map cx = flyG (zs.map cx) ∧ w.heap.size < g ∧ ∃ b8, Bk w' q #[.bool b8] 183 ∧ Ch (Is q) w w') := by
 have hl : zs.length = n := by have := sl.len; simpa using this
 match n, h2, h5 with
 | 2, _, _ => match zs, hl with
  | [x, y], _ => exact ref11_Watched2 S A c x y q b9 w wb sl hSq
 | 3, _, _ => match zs, hl with
  | [x, y, u], _ => exact ref11_Watched3 S A c x y u q b9 w wb sl hSq
 | 4, _, _ => match zs, hl with
  | [x, y, u, v], _ => exact ref11_Watched4 S A c x y u v q b9 w wb sl hSq
 | 5, _, _ => match zs, hl with
  | [x, y, u, v, z], _ => exact ref11_Watched5 S A c x y u v z q b9 w wb sl hSq
theorem ref11_Fly (S : Nat → Prop) (A : Option Addr) (n c : Nat) (h2 : 2 ≤ n) (h5 : n ≤ 5) (zs : List CB) (w : World) (sl : SlR S w A n 1 (zs.map cxV)) (hS9 : ∀ z, S z → z < w.heap.size) :
  Calls prog 114 #[.slice A n c] w (Ret (fun r w' => ∃ g B k os, r = .slice B n k ∧ CR 33 w' g B n k os ∧ os.map cx = flyG (zs.map cx) ∧ w.heap.size < g ∧ Ch No w w')) := by
 refine Ku func114 O ntmps114 O (Kb (Ww O O (Wy ?_)))
 refine Om (Ct O (build183w100 O)) O (Km (Cp O) O ?_)
 intro p1 w1 b4 c1 e1 z1
 refine Wu O O ?_
 have sl_1 := sl.keep c1
 refine Oq (Qi call146 O (ref11_Watched _ _ _ _ h2 h5 _ p1 _ _ b4 sl_1 (fun z hz => by have := hS9 z hz; omega))) O ?_
 rintro _ w2 ⟨g2, B2, k2, zs2, rfl, tr2, ht2, hg2, b8_2, wb_2, c2⟩
 have hlo2 := Ow.lt tr2
 have z2 := c2.size
 refine Ww O O (Ka (Qp (Qx O O (Kx ?_))))
 have CH_1 := c1
 have CH_2 : Ch (No) w w2 := CH_1.then c2
 exact ⟨_, _, _, _, O, tr2, ht2, by omega, CH_2⟩
end Go.Tm
namespace Go.Tm
set_option maxRecDepth 100000
open Go.RowKit Go.Proofs Go.Proofs.Tryz
mutual
def np : Ord → Nat
 | .mk _ _ ks => 1 + nps ks
def nps : List Ord → Nat
 | [] => 0
 | a :: t => np a + nps t
end
mutual
def dp : Ord → Nat
 | .mk _ _ ks => 1 + dps ks
def dps : List Ord → Nat
 | [] => 0
 | a :: t => Nat.max (dp a) (dps t)
end
theorem np_kids (o : Ord) : np o = 1 + nps o.kids := by cases o; rw [np]; rfl
theorem dp_kids (o : Ord) : dp o = 1 + dps o.kids := by cases o; rw [dp]; rfl
theorem drop_kid {l : List Ord} {i : Nat} {k : Ord} (h : l[i]? = some k) : l.drop i = k :: l.drop (i + 1) := by
 obtain ⟨h1, h2⟩ := List.getElem?_eq_some_iff.1 h
 rw [List.drop_eq_getElem_cons h1, h2]
theorem nps_drop {l : List Ord} {i : Nat} {k : Ord} (h : l[i]? = some k) : nps (l.drop i) = np k + nps (l.drop (i + 1)) := by rw [drop_kid h, nps]
theorem dp_kid : ∀ {l : List Ord} {i : Nat} {k : Ord}, l[i]? = some k → dp k ≤ dps l
 | [], i, k, h => by simp at h
 | a :: t, 0, k, h => by
  simp only [List.getElem?_cons_zero, Option.some.injEq] at h; subst h
  rw [dps]; exact Nat.le_max_left _ _
 | a :: t, i + 1, k, h => by
  rw [dps]; exact Nat.le_trans (dp_kid (by simpa using h)) (Nat.le_max_right _ _)
theorem wl_np : ∀ (m : Nat) (o : Ord) (p d : Int), SizeOf.sizeOf o < m → (wl o p d).2 ≠ 0 → 0 ≤ p → p ≤ 4096 → 1 ≤ d → (wl o p d).1 = p + np o ∧ d + dp o ≤ 17
 | 0, _, _, _, h, _, _, _, _ => by omega
 | m + 1, o, p, d, h, hz, h0, h1, h2 => by
  by_cases hf : p + 1 > 4096 ∨ d > 16
  · rw [wl_full hf] at hz; exact absurd rfl hz
  have hk := kids_lt o
  rw [np_kids, dp_kids]
  by_cases e0 : o.kids.length = 0
  ·
   have e0' := List.eq_nil_of_length_eq_zero e0
   rw [wl_leaf hf e0', e0']
   simp only [nps, dps]
   split
   · simp only; omega
   · split <;> simp only <;> omega
  by_cases e1 : o.kids.length = 1
  ·
   obtain ⟨a, ha, e⟩ := kids1 (o := o) (by omega)
   have := kid_lt ha
   rw [wl_one hf e] at hz ⊢
   by_cases h5 : o.kind = 4 ∧ 2 ≤ o.n ∧ o.n ≤ 16384
   ·
    rw [if_pos h5] at hz ⊢
    by_cases h6 : (wl a (p + 1) (d + 1)).2 < 2 * o.n - 1
    · rw [if_pos h6] at hz; exact absurd rfl hz
    ·
     have ia := wl_np m a (p + 1) (d + 1) (by omega) (by omega) (by omega) (by omega) (by omega)
     rw [if_neg h6, e]
     simp only [nps, dps, Nat.max_def]
     split <;> omega
   · rw [if_neg h5] at hz; exact absurd rfl hz
  by_cases e2 : o.kids.length = 2
  ·
   obtain ⟨a, b, ha, hb, e⟩ := kids2 (o := o) (by omega)
   have := kid_lt ha
   have := kid_lt hb
   rw [wl_two hf e] at hz ⊢
   by_cases h5 : o.kind = 3 ∧ o.n = 0
   ·
    rw [if_pos h5] at hz ⊢
    by_cases h6 : (wl a (p + 1) (d + 1)).2 < 2
    · rw [if_pos h6] at hz; exact absurd rfl hz
    ·
     rw [if_neg h6] at hz ⊢
     have hbd := wl_bd _ a (p + 1) (d + 1) (Nat.lt_succ_self _) (by omega) (by omega)
     have ia := wl_np m a (p + 1) (d + 1) (by omega) (by omega) (by omega) (by omega) (by omega)
     by_cases h7 : (wl b (wl a (p + 1) (d + 1)).1 (d + 1)).2 < 2 ∨ (wl a (p + 1) (d + 1)).2 * (wl b (wl a (p + 1) (d + 1)).1 (d + 1)).2 > 16384
     · rw [if_pos h7] at hz; exact absurd rfl hz
     ·
      have ib := wl_np m b (wl a (p + 1) (d + 1)).1 (d + 1) (by omega) (by omega) (by omega) (by omega) (by omega)
      rw [if_neg h7, e]
      simp only [nps, dps, Nat.max_def]
      refine ⟨by omega, ?_⟩
      split <;> (try split) <;> omega
   · rw [if_neg h5] at hz; exact absurd rfl hz
  · rw [wl_more hf (by omega)] at hz; exact absurd rfl hz
theorem len_np {o : Ord} (h : o.len ≠ 0) : np o ≤ 4096 ∧ dp o ≤ 16 := by
 have h1 := wl_np _ o 0 1 (Nat.lt_succ_self _) h (by omega) (by omega) (by omega)
 have h2 := wl_bd _ o 0 1 (Nat.lt_succ_self _) (by omega) (by omega)
 have h3 := h2.2.2.1 h
 omega
structure GOc (o : Ord) : Prop where
  k0 : 1 ≤ o.kind ∧ o.kind ≤ 4
  k1 : o.kind = 1 → 1 ≤ o.n ∧ o.n ≤ 64 ∧ o.kids.length = 0 ∧ sl o = o.n
  k2 : o.kind = 2 → 2 ≤ o.n ∧ o.n ≤ 5 ∧ o.kids.length = 0 ∧ sl o = o.n
  k3 : o.kind = 3 → o.n = 0 ∧ o.kids.length = 2 ∧ ∃ a b, o.kids[0]? = some a ∧ o.kids[1]? = some b ∧ GO a ∧ GO b ∧ sl a = a.len ∧ sl b = b.len ∧ sl o = sl a * sl b ∧ 2 ≤ sl a ∧ 2 ≤ sl b ∧ sl a ≤ 16384 / sl b ∧ sl a * sl b ≤ 16384
  k4 : o.kind = 4 → 2 ≤ o.n ∧ o.n ≤ 8192 ∧ o.kids.length = 1 ∧ sl o = o.n ∧ ∃ a, o.kids[0]? = some a ∧ GO a ∧ sl a = a.len ∧ 2 * o.n - 1 ≤ sl a ∧ sl a ≤ 16384
theorem GO.c {o : Ord} (h : GO o) : GOc o := by
 cases h with
 | direct h1 h2 => exact ⟨by simp [Ord.kind], fun _ => ⟨h1, h2, rfl, rfl⟩, fun e => absurd e (by simp [Ord.kind]), fun e => absurd e (by simp [Ord.kind]), fun e => absurd e (by simp [Ord.kind])⟩
 | fly h1 h2 => exact ⟨by simp [Ord.kind], fun e => absurd e (by simp [Ord.kind]), fun _ => ⟨h1, h2, rfl, rfl⟩, fun e => absurd e (by simp [Ord.kind]), fun e => absurd e (by simp [Ord.kind])⟩
 | @times a b ha hb h1 h2 h3 =>
  have ea := len_sl (o := a)
  have eb := len_sl (o := b)
  refine ⟨by simp [Ord.kind], fun e => absurd e (by simp [Ord.kind]), fun e => absurd e (by simp [Ord.kind]), fun _ => ⟨O, O, a, b, O, O, ha, hb, ea.symm, eb.symm, by rw [← ea, ← eb]; rfl, by omega, by omega, ?_, by rw [← ea, ← eb]; exact h3⟩, fun e => absurd e (by simp [Ord.kind])⟩
  rw [← ea, ← eb]
  exact Int.le_ediv_of_mul_le (by omega) h3
 | @blue n a h1 h2 ha h3 =>
  have ea := len_sl (o := a)
  have := (len_bd a).2
  exact ⟨by simp [Ord.kind], fun e => absurd e (by simp [Ord.kind]), fun e => absurd e (by simp [Ord.kind]), fun e => absurd e (by simp [Ord.kind]), fun _ => ⟨h1, by show n ≤ 8192; omega, O, O, a, O, ha, ea.symm, by show 2 * n - 1 ≤ _; omega, by omega⟩⟩
theorem ref12_Parts (m : Nat) : ∀ (o : Ord) (A : Option Addr) (c lo hi : Nat) (most : Int) (w : World) (_ : SizeOf.sizeOf o < m) (_ : RdK (In lo hi) w A o.kids) (_ : hi ≤ w.heap.size) (_ : (np o : Int) ≤ most ∧ most ≤ 4096), Calls prog 109 #[ordV o A c, Kg most] w (Ret (fun v w' => v = Kg (np o : Int) ∧ Ch No w w')) := by
 induction m with
 | zero => intros; omega
 | succ m ih =>
 intro o A c lo hi most w hs kd hh hmo
 refine Ku func109 O ntmps109 O ?_
 have kmax := kd.max
 have hnp := np_kids o
 refine Kb (Km (Cp O) O ?_)
 intro p1 w1 b2 c1 e1 z1
 refine Ww O O (Wy (Ww O O (Ka ?_)))
 refine Qe (Kb (Om (Qh υ53 O ς51 O O O) O (Om (Qg ι51 O (b2.cell O)) O (Om (Cs υ51 O) O (Wu O O (Qf ?_))))))
 refine Qa (Qt ?_)
 have kd_1 := kd.keep c1
 have CH_1 := c1
 refine Kf (σ := Nat × Nat) (fun (i, n) => [(1, Kg most), (5, Kg n), (9, .slice A o.kids.length c), (10, Kg o.kids.length), (11, Kg i)]) (fun (i, n) w' => i ≤ o.kids.length ∧ (1 ≤ n ∧ n + nps (o.kids.drop i) = np o) ∧ w1.heap.size ≤ w'.heap.size ∧ RdK (In lo hi) w' A o.kids ∧ Ch (No) w w') (fun (i, n) => o.kids.length - i) (0, 1) ?_ ?_
 · exact ⟨(by omega), ⟨by omega, by rw [hnp]; rfl⟩, (Nat.le_refl _), kd_1, CH_1⟩
 rintro ⟨i, n⟩ w2 ⟨hi9, hn9, hsz2, kd_2, CH_2⟩
 refine Kb (Om (Co O O) O (Wz (Qj O (fun hc1 => ?_) (fun hc1 => ?_))))
 ·
  refine Qn (Qa (Qe (Qt (Qe ?_))))
  obtain ⟨ko, hko⟩ : ∃ ko, o.kids[i]? = some ko := ⟨_, List.getElem?_eq_getElem (by omega)⟩
  obtain ⟨kA, kc, ka, kr⟩ := kd_2.kid hko
  have hlt := kid_lt hko; have hlt2 := kids_lt o
  have hst := nps_drop hko
  refine Qb (Om (Qs υ51 ς53 O O (kd_2.ne (by omega))) O (Om (Qz ι53 ς53 O O ka.1) O (Km (Ck ζ53) O ?_)))
  intro p3 w3 b7 c3 e3 z3
  refine Ks (Cl ς53 O O O O b7) O ?_
  intro w4 c4 z4 b7_4
  refine Wz (Kb (Wu O O (Wu O O (Om (Rb O O) O ?_))))
  refine Ka (Qj O (fun hc2 => ?_) (fun hc2 => ?_))
  · omega
  refine Qn (Qa (Qb (Wu O O (Om (Qz ι53 ς53 O O (b7_4.all' O)) O (Wu O O (Wu O O ?_))))))
  refine Om (Rg O O) O ?_
  have cc_2_4 : Ch No w2 w4 := (Ch.then (E := No) c3 c4)
  have kr_4 := kr.keep cc_2_4
  refine Oq (Qi call109 O (ih ko _ _ _ _ _ _ (by omega) kr_4 (by omega) ⟨by omega, by omega⟩)) O ?_
  rintro _ w5 ⟨rfl, c5⟩
  have z5 := c5.size
  refine Om (Cd O O) O ?_
  refine Ww O O (Qf (Ql (Qa (Qb ?_))))
  refine Om (Cd O O) O ?_
  refine Wu O O (Qf ?_)
  refine Ke (i + 1, n + np ko) ?_
  have cc_2_5 : Ch No w2 w5 := ((Ch.then (E := No) c3 c4).and c5)
  have kd_5 := kd_2.keep cc_2_5
  have CH_5 := CH_2.and cc_2_5
  exact ⟨by omega, ⟨by omega, by omega⟩, by omega, kd_5, CH_5⟩
 refine Cn (Qk (Qk (Qy (Qa (Kb (Wu O O ?_))))))
 refine Ww O O (Ka (Qp (Qx O O (Kx ?_))))
 have ei : i = o.kids.length := by omega
 subst ei
 rw [List.drop_length, nps] at hn9
 exact ⟨by rw [← hn9.2]; simp, CH_2⟩
theorem ref12_deep (m : Nat) : ∀ (o : Ord) (A : Option Addr) (c lo hi : Nat) (most : Int) (w : World) (_ : SizeOf.sizeOf o < m) (_ : RdK (In lo hi) w A o.kids) (_ : hi ≤ w.heap.size) (_ : (dp o : Int) ≤ most ∧ most ≤ 4096), Calls prog 110 #[ordV o A c, Kg most] w (Ret (fun v w' => v = .bool true ∧ Ch No w w')) := by
 induction m with
 | zero => intros; omega
 | succ m ih =>
 intro o A c lo hi most w hs kd hh hmo
 refine Ku func110 O ntmps110 O ?_
 have kmax := kd.max
 have hdp := dp_kids o
 refine Kb (Km (Cp O) O ?_)
 intro p1 w1 b2 c1 e1 z1
 refine Ww O O (Wz (Kb (Wu O O (Om (Co O O) O ?_))))
 refine Ka (Qj O (fun hc1 => ?_) (fun hc1 => ?_))
 · omega
 refine Qn (Qa (Qe (Kb (Om (Qh υ53 O ς51 O O O) O (Om (Qg ι51 O (b2.cell O)) O (Om (Cs υ51 O) O ?_))))))
 refine Wu O O (Ka (Qt ?_))
 have kd_1 := kd.keep c1
 have CH_1 := c1
 refine Kf (σ := Nat) (fun i => [(1, Kg most), (11, .slice A o.kids.length c), (12, Kg o.kids.length), (13, Kg i)]) (fun i w' => i ≤ o.kids.length ∧ w1.heap.size ≤ w'.heap.size ∧ RdK (In lo hi) w' A o.kids ∧ Ch (No) w w') (fun i => o.kids.length - i) 0 ?_ ?_
 · exact ⟨(by omega), (Nat.le_refl _), kd_1, CH_1⟩
 rintro i w2 ⟨hi9, hsz2, kd_2, CH_2⟩
 refine Kb (Om (Co O O) O (Wz (Qj O (fun hc2 => ?_) (fun hc2 => ?_))))
 ·
  refine Qn (Qa (Qe (Qt (Qe ?_))))
  obtain ⟨ko, hko⟩ : ∃ ko, o.kids[i]? = some ko := ⟨_, List.getElem?_eq_getElem (by omega)⟩
  obtain ⟨kA, kc, ka, kr⟩ := kd_2.kid hko
  have hlt := kid_lt hko; have hlt2 := kids_lt o
  have hst := dp_kid hko
  refine Qb (Om (Qs υ51 ς53 O O (kd_2.ne (by omega))) O (Om (Qz ι53 ς53 O O ka.1) O (Km (Ck ζ53) O ?_)))
  intro p3 w3 b6 c3 e3 z3
  refine Ks (Cl ς53 O O O O b6) O ?_
  intro w4 c4 z4 b6_4
  refine Wy (Om (Qz ι53 ς53 O O (b6_4.all' O)) O (Wu O O ?_))
  refine Om (Rg O O) O ?_
  have cc_2_4 : Ch No w2 w4 := (Ch.then (E := No) c3 c4)
  have kr_4 := kr.keep cc_2_4
  refine Oq (Qi call110 O (ih ko _ _ _ _ _ _ (by omega) kr_4 (by omega) ⟨by omega, by omega⟩)) O ?_
  rintro _ w5 ⟨rfl, c5⟩
  have z5 := c5.size
  refine Ww O O (Wy (Wu O O (Om (Rm O) O (Qf ?_))))
  refine Qa (Cc O (Qn (Ql (Qa (Qb ?_)))))
  refine Om (Cd O O) O ?_
  refine Wu O O (Qf ?_)
  refine Ke (i + 1) ?_
  have cc_2_5 : Ch No w2 w5 := ((Ch.then (E := No) c3 c4).and c5)
  have kd_5 := kd_2.keep cc_2_5
  have CH_5 := CH_2.and cc_2_5
  exact ⟨(by omega), (by omega), kd_5, CH_5⟩
 refine Cn (Qk (Qk (Qy (Qa (Kb (Ww O O ?_))))))
 refine Ka (Qp (Qx O O (Kx ?_)))
 exact ⟨O, CH_2⟩
theorem ref12_length (m : Nat) : ∀ (o : Ord) (A : Option Addr) (c lo hi : Nat) (w : World) (_ : SizeOf.sizeOf o < m) (_ : RdK (In lo hi) w A o.kids) (_ : hi ≤ w.heap.size) (_ : GO o), Calls prog 111 #[ordV o A c] w (Ret (fun v w' => v = Kg (sl o) ∧ Ch No w w')) := by
 induction m with
 | zero => intros; omega
 | succ m ih =>
 intro o A c lo hi w hs kd hh go
 refine Ku func111 O ntmps111 O ?_
 have hg := go.c
 refine Kb (Km (Cp O) O ?_)
 intro p1 w1 b1 c1 e1 z1
 refine Ww O O (Wz (Kb (Om (Qh υ53 O ς3 O O O) O (Om (Qg ι3 O (b1.cell O)) O ?_))))
 refine Ka (Qt (Kb (Om (Cg O O) O (Ww O O (Qf ?_)))))
 refine Qa (Qj O (fun hc1 => ?_) (fun hc1 => ?_))
 ·
  refine Qe ?_
  have h1 := hg.k1 (by omega)
  refine Qb (Om (Qh υ53 O ς3 O O O) O (Om (Qg ι3 O (b1.cell O)) O (Om (Ry O O) O (Wu O O ?_))))
  refine Re (b := _) 4 13 17 O (fun hc2 Jhc2 => by
    try simp only [bX] at hc2
    refine Om (Qh υ53 O ς3 O O O) O (Om (Qg ι3 O (b1.cell O)) O (Om (Ro O O) O (Om (Qr O O) O ?_)))
    exact (Qo O (Qo O (Qo O Jhc2)))) (fun hc2 Jhc2 => by
    refine Oy O (Oy O (Oy O (Om (Qm O O) O ?_)))
    exact (Qo O (Qo O (Qo O Jhc2)))) ?_
  refine Wu O O ?_
  refine Re (b := _) 5 18 23 O (fun hc3 Jhc3 => by
    try simp only [bX] at hc3
    refine Om (Qh υ53 O ς51 O O O) O (Om (Qg ι51 O (b1.cell O)) O (Om (Cs υ51 O) O (Om (Cg O O) O (Om (Qr O O) O ?_))))
    exact (Qo O (Qo O (Qo O (Qo O Jhc3))))) (fun hc3 Jhc3 => by
    refine Oy O (Oy O (Oy O (Oy O (Om (Qm O O) O ?_))))
    exact (Qo O (Qo O (Qo O (Qo O Jhc3))))) ?_
  refine Ka (Cq O (fun hc4 => ?_) (fun hc4 => ?_))
  ·
   try simp only [bX] at hc4
   refine Kb (Om (Qh υ53 O ς3 O O O) O (Om (Qg ι3 O (b1.cell O)) O (Ww O O (Ka (Qp ?_)))))
   refine Cb (Qw (Qx O O (Kx ?_)))
   have CH_1 := c1
   exact ⟨by first | (rw [h1.2.2.2]; rfl) | (rw [h2.2.2.2]; rfl) | (rw [e3]) | (rw [h44]; rfl), CH_1⟩
  try simp only [bX] at hc4
  omega
 refine Kb (Om (Cg O O) O (Ww O O (Ka (Qj O (fun hc5 => ?_) (fun hc5 => ?_)))))
 ·
  refine Qe ?_
  have h2 := hg.k2 (by omega)
  refine Qb (Om (Qh υ53 O ς3 O O O) O (Om (Qg ι3 O (b1.cell O)) O (Om (Ry O O) O (Wu O O ?_))))
  refine Re (b := _) 4 31 35 O (fun hc6 Jhc6 => by
    try simp only [bX] at hc6
    refine Om (Qh υ53 O ς3 O O O) O (Om (Qg ι3 O (b1.cell O)) O (Om (Ro O O) O (Om (Qr O O) O ?_)))
    exact (Qo O (Qo O (Qo O Jhc6)))) (fun hc6 Jhc6 => by
    refine Oy O (Oy O (Oy O (Om (Qm O O) O ?_)))
    exact (Qo O (Qo O (Qo O Jhc6)))) ?_
  refine Wu O O ?_
  refine Re (b := _) 5 36 41 O (fun hc7 Jhc7 => by
    try simp only [bX] at hc7
    refine Om (Qh υ53 O ς51 O O O) O (Om (Qg ι51 O (b1.cell O)) O (Om (Cs υ51 O) O (Om (Cg O O) O (Om (Qr O O) O ?_))))
    exact (Qo O (Qo O (Qo O (Qo O Jhc7))))) (fun hc7 Jhc7 => by
    refine Oy O (Oy O (Oy O (Oy O (Om (Qm O O) O ?_))))
    exact (Qo O (Qo O (Qo O (Qo O Jhc7))))) ?_
  refine Ka (Cq O (fun hc8 => ?_) (fun hc8 => ?_))
  ·
   try simp only [bX] at hc8
   refine Kb (Om (Qh υ53 O ς3 O O O) O (Om (Qg ι3 O (b1.cell O)) O (Ww O O (Ka (Qp ?_)))))
   refine Cb (Qw (Qx O O (Kx ?_)))
   have CH_1 := c1
   exact ⟨by first | (rw [h1.2.2.2]; rfl) | (rw [h2.2.2.2]; rfl) | (rw [e3]) | (rw [h44]; rfl), CH_1⟩
  try simp only [bX] at hc8
  omega
 refine Kb (Om (Cg O O) O (Ww O O (Ka (Qj O (fun hc9 => ?_) (fun hc9 => ?_)))))
 ·
  refine Qe (Qe ?_)
  obtain ⟨h31, h32, a, b, ha, hb, ga, gb, la, lb, e3, a2, b2, ab1, ab2⟩ := hg.k3 (by omega)
  have zla := kid_lt ha; have zlb := kid_lt hb; have zlo := kids_lt o
  have kd_1 := kd.keep c1
  obtain ⟨kA, kc, ka, kr⟩ := kd_1.kid ha
  obtain ⟨kB, kc2, kb, ks⟩ := kd_1.kid hb
  have ab0 : 0 ≤ sl a * sl b := Int.mul_nonneg (by omega) (by omega)
  refine Qb (Om (Qh υ53 O ς3 O O O) O (Om (Qg ι3 O (b1.cell O)) O (Om (Wd O O) O (Wu O O ?_))))
  refine Cz (b := _) 5 49 54 O (fun hc10 Jhc10 => by
    refine Oy O (Oy O (Oy O (Oy O (Om (Qr O O) O ?_))))
    exact (Qo O (Qo O (Qo O (Qo O Jhc10))))) (fun hc10 Jhc10 => by
    try simp only [bX] at hc10
    refine Om (Qh υ53 O ς51 O O O) O (Om (Qg ι51 O (b1.cell O)) O (Om (Cs υ51 O) O (Om (Wd O O) O (Om (Qm O O) O ?_))))
    exact (Qo O (Qo O (Qo O (Qo O Jhc10))))) ?_
  refine Ka (Cq O (fun hc11 => ?_) (fun hc11 => ?_))
  ·
   try simp only [bX] at hc11
   omega
  try simp only [bX] at hc11
  refine Qn (Qa (Kb (Om (Qh υ53 O ς51 O O O) O (Om (Qg ι51 O (b1.cell O)) O (Om (Qs υ51 ς53 O O (kd_1.ne (by omega))) O (Om (Qz ι53 ς53 O O ka.1) O ?_))))))
  refine Oq (Qi call111 O (ih a _ _ _ _ _ (by omega) kr (by omega) ga)) O ?_
  rintro _ w2 ⟨rfl, c2⟩
  have z2 := c2.size
  refine Ww O O (Wy (Om (Qh υ53 O ς51 O O O) O ?_))
  have b1_2 := b1.keep c2
  refine Om (Qg ι51 O (b1_2.cell O)) O ?_
  have kd_2 := kd_1.keep c2
  refine Om (Qs υ51 ς53 O O (kd_2.ne (by omega))) O ?_
  have kb_2 := kb.keep c2
  refine Om (Qz ι53 ς53 O O kb_2.1) O ?_
  have ks_2 := ks.keep c2
  refine Oq (Qi call111 O (ih b _ _ _ _ _ (by omega) ks_2 (by omega) gb)) O ?_
  rintro _ w3 ⟨rfl, c3⟩
  have z3 := c3.size
  refine Ww O O (Wy (Wu O O (Om (Ry O O) O (Wu O O ?_))))
  refine Re (b := _) 3 67 70 O (fun hc12 Jhc12 => by
    try simp only [bX] at hc12
    refine Wu O O (Om (Ry O O) O (Om (Qr O O) O ?_))
    exact (Qo O (Qo O Jhc12))) (fun hc12 Jhc12 => by
    refine Oy O (Oy O (Om (Qm O O) O ?_))
    exact (Qo O (Qo O Jhc12))) ?_
  refine Wu O O ?_
  refine Re (b := _) 5 71 76 O (fun hc13 Jhc13 => by
    try simp only [bX] at hc13
    refine Wu O O (Wu O O (Om (Wc O O (by omega) (by omega) (by omega)) O (Om (Ro O O) O (Om (Qr O O) O ?_))))
    exact (Qo O (Qo O (Qo O (Qo O Jhc13))))) (fun hc13 Jhc13 => by
    refine Oy O (Oy O (Oy O (Oy O (Om (Qm O O) O ?_))))
    exact (Qo O (Qo O (Qo O (Qo O Jhc13))))) ?_
  refine Ka (Cq O (fun hc14 => ?_) (fun hc14 => ?_))
  ·
   try simp only [bX] at hc14
   refine Kb (Wu O O (Wu O O ?_))
   refine Om (Cy O O) O ?_
   refine Ww O O (Ka (Qp (Cb (Qw (Qx O O (Kx ?_))))))
   have CH_3 := (c1.trans (c2.trans c3))
   exact ⟨by first | (rw [h1.2.2.2]; rfl) | (rw [h2.2.2.2]; rfl) | (rw [e3]) | (rw [h44]; rfl), CH_3⟩
  try simp only [bX] at hc14
  omega
 refine Kb (Om (Cg O O) O (Ww O O (Ka (Qj O (fun hc15 => ?_) (fun hc15 => ?_)))))
 ·
  refine Qe (Qe ?_)
  obtain ⟨h41, h42, h43, h44, a, ha, ga, la, ab1, ab2⟩ := hg.k4 (by omega)
  have zla := kid_lt ha; have zlo := kids_lt o
  have kd_1 := kd.keep c1
  obtain ⟨kA, kc, ka, kr⟩ := kd_1.kid ha
  refine Qb (Om (Qh υ53 O ς3 O O O) O (Om (Qg ι3 O (b1.cell O)) O (Om (Co O O) O (Wu O O ?_))))
  refine Cz (b := _) 4 85 89 O (fun hc16 Jhc16 => by
    refine Oy O (Oy O (Oy O (Om (Qr O O) O ?_)))
    exact (Qo O (Qo O (Qo O Jhc16)))) (fun hc16 Jhc16 => by
    try simp only [bX] at hc16
    refine Om (Qh υ53 O ς3 O O O) O (Om (Qg ι3 O (b1.cell O)) O (Om (Rb O O) O (Om (Qm O O) O ?_)))
    exact (Qo O (Qo O (Qo O Jhc16)))) ?_
  refine Wu O O ?_
  refine Cz (b := _) 5 90 95 O (fun hc17 Jhc17 => by
    refine Oy O (Oy O (Oy O (Oy O (Om (Qr O O) O ?_))))
    exact (Qo O (Qo O (Qo O (Qo O Jhc17))))) (fun hc17 Jhc17 => by
    try simp only [bX] at hc17
    refine Om (Qh υ53 O ς51 O O O) O (Om (Qg ι51 O (b1.cell O)) O (Om (Cs υ51 O) O (Om (Wd O O) O (Om (Qm O O) O ?_))))
    exact (Qo O (Qo O (Qo O (Qo O Jhc17))))) ?_
  refine Ka (Cq O (fun hc18 => ?_) (fun hc18 => ?_))
  ·
   try simp only [bX] at hc18
   omega
  try simp only [bX] at hc18
  refine Qn (Qa (Kb (Om (Qh υ53 O ς51 O O O) O (Om (Qg ι51 O (b1.cell O)) O (Om (Qs υ51 ς53 O O (kd_1.ne (by omega))) O (Om (Qz ι53 ς53 O O ka.1) O ?_))))))
  refine Oq (Qi call111 O (ih a _ _ _ _ _ (by omega) kr (by omega) ga)) O ?_
  rintro _ w4 ⟨rfl, c4⟩
  have z4 := c4.size
  refine Ww O O (Wy (Wu O O (Om (Qh υ53 O ς3 O O O) O ?_)))
  have b1_4 := b1.keep c4
  refine Om (Qg ι3 O (b1_4.cell O)) O ?_
  refine Om (Cy O O) O ?_
  refine Om (Rg O O) O ?_
  refine Om (Ry O O) O (Ka (Qj O (fun hc19 => ?_) (fun hc19 => ?_)))
  ·
   refine Kb (Om (Qh υ53 O ς3 O O O) O (Om (Qg ι3 O (b1_4.cell O)) O (Ww O O (Ka (Qp ?_)))))
   refine Cb (Qw (Qx O O (Kx ?_)))
   have CH_4 := (c1.trans c4)
   exact ⟨by first | (rw [h1.2.2.2]; rfl) | (rw [h2.2.2.2]; rfl) | (rw [e3]) | (rw [h44]; rfl), CH_4⟩
  omega
 have h0 := hg.k0
 omega
theorem ref12_Length (o : Ord) (A : Option Addr) (c lo hi : Nat) (w : World) (kd : RdK (In lo hi) w A o.kids) (hh : hi ≤ w.heap.size) (hl : o.len ≠ 0) :
  Calls prog 67 #[ordV o A c] w (Ret (fun v w' => v = Kg o.len ∧ Ch No w w')) := by
 have hnp := len_np hl
 have go := GO.of_len hl
 have els := len_sl hl
 refine Ku func67 O ntmps67 O (Kb (Km (Cp O) O ?_))
 intro p1 w1 b1 c1 e1 z1
 refine Ww O O (Wz (Kb (Om (Qz ι53 ς53 O O (b1.all' O)) O ?_)))
 have kd_1 := kd.keep c1
 refine Oq (Qi call109 O (ref12_Parts _ o _ _ _ _ 4096 _ (Nat.lt_succ_self _) kd_1 (by omega) ⟨by omega, by omega⟩)) O ?_
 rintro _ w2 ⟨rfl, c2⟩
 have z2 := c2.size
 refine Om (Rb O O) O (Wu O O (VO.split_if 6 O (fun hc1 => ?_) (fun hc1 => ?_)))
 ·
  refine Oy O (Oy O (Oy O (Om (Qr O O) O (Ka (Rd O (Qe ?_))))))
  refine Qb (Ww O O (Ka (Qp (Qw (Qx O O (Kx ?_))))))
  exfalso; omega
 have b1_2 := b1.keep c2
 refine Om (Qz ι53 ς53 O O (b1_2.all' O)) O ?_
 have kd_2 := kd_1.keep c2
 refine Oq (Qi call110 O (ref12_deep _ o _ _ _ _ 16 _ (Nat.lt_succ_self _) kd_2 (by omega) ⟨by omega, by omega⟩)) O ?_
 rintro _ w3 ⟨rfl, c3⟩
 have z3 := c3.size
 refine Om (Rm O) O (Om (Qm O O) O (Ka (Cc O (Qn (Qa (Qe ?_))))))
 refine Qb ?_
 have b1_3 := b1_2.keep c3
 refine Om (Qz ι53 ς53 O O (b1_3.all' O)) O ?_
 have kd_3 := kd_2.keep c3
 refine Oq (Qi call111 O (ref12_length _ o _ _ _ _ _ (Nat.lt_succ_self _) kd_3 (by omega) go)) O ?_
 rintro _ w4 ⟨rfl, c4⟩
 have z4 := c4.size
 refine Ww O O (Ka (Qp (Qx O O (Kx ?_))))
 have CH_4 := (c1.trans (c2.trans (c3.trans c4)))
 exact ⟨by rw [els], CH_4⟩
end Go.Tm
