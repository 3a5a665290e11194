/- Lemmas of this claim, joined by program. Walks of functions: compile. Compiling deep, in plain Lean. Good orders: those with a length. Walks of functions: compile, deep. Conditions: each lemma names its own. -/
import Derived.Test.YtpfglkohcfjelaaGreatDoorJ04
import Derived.Test.YtpfglkohcfjelaaGreatDoorJ01
import Derived.Test.YtpfglkohcfjelaaGreatDoorJ03
set_option linter.all false
namespace Go.Tm
set_option maxRecDepth 100000
open Go.RowKit Go.Proofs Go.Proofs.Tryz
theorem Rn.max2 {P : Program} {n : Fr} {k : K} {w : World} {d : Option Nat} {ty : TypeId} {pos : String} {aft : Array Edge} {g : Option (Nat × Bool)} {x y : Operand} {q q' : IntKind} {a b : Int} {ts : Array TypeId} (hx : ev k x = some (.int q a)) (hy : ev k y = some (.int q' b)) :
  Rn P n k w { dst := d, op := .call { callee := .builtin .max, args := #[x, y], argTypes := ts }, type := ty, pos := pos, after := aft, guard := g } (.int q (if b > a then b else a)) :=
 fun e he => by simp [execOp, resolve, invoke, builtin, he.eval hx, he.eval hy, run_max_int2]
theorem build135w13 {ps : List (Nat × Value)} {cs : Array Value} (h : Instr.fill (fun i => ([(0, 1), (1, 1), (2, 1), (3, 1), (4, 1), (5, 1), (6, 1)] : List (Nat × Nat))[i]?) #[.int .i64 0, .int .i64 0, .int .i64 0, .int .i64 0, .int .i64 0, .int .i64 0, .int .i64 0] ps = some cs) (w : World) : (Instr.build 135 ps.toArray).run prog w = .ok (.agg cs) w := by
 simp [Instr.build, runUnderlying135, ζ135, ς3, Value.cells, h]
theorem bld135_0_1_2_3_4w13 {v0 v1 v2 v3 v4 : Value} (h : [v0, v1, v2, v3, v4].all Value.oneCell' = true) : BLD prog 135 [(0, v0), (1, v1), (2, v2), (3, v3), (4, v4)] #[v0, v1, v2, v3, v4, .int .i64 0, .int .i64 0] := build135w13 (fill1 _ _ _ h rfl)
theorem bld135_0_1_2_3_4_5w13 {v0 v1 v2 v3 v4 v5 : Value} (h : [v0, v1, v2, v3, v4, v5].all Value.oneCell' = true) : BLD prog 135 [(0, v0), (1, v1), (2, v2), (3, v3), (4, v4), (5, v5)] #[v0, v1, v2, v3, v4, v5, .int .i64 0] := build135w13 (fill1 _ _ _ h rfl)
theorem bld135_0_1_3_4_5w13 {v0 v1 v3 v4 v5 : Value} (h : [v0, v1, v3, v4, v5].all Value.oneCell' = true) : BLD prog 135 [(0, v0), (1, v1), (3, v3), (4, v4), (5, v5)] #[v0, v1, .int .i64 0, v3, v4, v5, .int .i64 0] := build135w13 (fill1 _ _ _ h rfl)
theorem bld135_0_1_4_5_6w13 {v0 v1 v4 v5 v6 : Value} (h : [v0, v1, v4, v5, v6].all Value.oneCell' = true) : BLD prog 135 [(0, v0), (1, v1), (4, v4), (5, v5), (6, v6)] #[v0, v1, .int .i64 0, .int .i64 0, v4, v5, v6] := build135w13 (fill1 _ _ _ h rfl)
theorem c_gather (dst src jump count : Int) (w : World) :
  Calls prog 224 #[Kg dst, Kg src, Kg jump, Kg count] w (Ret (fun v w' => v = .agg #[Kg 1, Kg dst, Kg src, Kg jump, Kg count, Kg 0, Kg 0] ∧ Ch No w w')) := by
 refine Ku func224 O ntmps224 O (Kb (Km (Ck ζ135) O ?_))
 intro p1 w1 b8 c1 e1 z1
 refine Wy (Wu O O (Wu O O (Wu O O (Wu O O ?_))))
 refine Om (Ct O (bld135_0_1_2_3_4w13 O)) O (Ks (Cl ς135 O O O O b8) O ?_)
 intro w2 c2 z2 b8_2
 refine Ka (Qp (Rl O O ι135 ς135 O (b8_2.all' O) (Kx ?_)))
 have cc_0_2 : Ch No w w2 := (Ch.then (E := No) c1 c2)
 have CH_2 := cc_0_2
 refine ⟨?_, CH_2⟩
 first | (simp [Value.cells]; done)
theorem c_fly (dst jump count r : Int) (w : World) :
  Calls prog 225 #[Kg dst, Kg jump, Kg count, Kg r] w (Ret (fun v w' => v = .agg #[Kg 5, Kg dst, Kg 0, Kg jump, Kg count, Kg r, Kg 0] ∧ Ch No w w')) := by
 refine Ku func225 O ntmps225 O (Kb (Km (Ck ζ135) O ?_))
 intro p1 w1 b8 c1 e1 z1
 refine Wy (Wu O O (Wu O O (Wu O O (Wu O O ?_))))
 refine Om (Ct O (bld135_0_1_3_4_5w13 O)) O (Ks (Cl ς135 O O O O b8) O ?_)
 intro w2 c2 z2 b8_2
 refine Ka (Qp (Rl O O ι135 ς135 O (b8_2.all' O) (Kx ?_)))
 have cc_0_2 : Ch No w w2 := (Ch.then (E := No) c1 c2)
 have CH_2 := cc_0_2
 refine ⟨?_, CH_2⟩
 first | (simp [Value.cells]; done)
theorem c_twist (dst count n k : Int) (w : World) :
  Calls prog 261 #[Kg dst, Kg count, Kg n, Kg k] w (Ret (fun v w' => v = .agg #[Kg 4, Kg dst, Kg 0, Kg 0, Kg count, Kg n, Kg k] ∧ Ch No w w')) := by
 refine Ku func261 O ntmps261 O (Kb (Km (Ck ζ135) O ?_))
 intro p1 w1 b8 c1 e1 z1
 refine Wy (Wu O O (Wu O O (Wu O O (Wu O O ?_))))
 refine Om (Ct O (bld135_0_1_4_5_6w13 O)) O (Ks (Cl ς135 O O O O b8) O ?_)
 intro w2 c2 z2 b8_2
 refine Ka (Qp (Rl O O ι135 ς135 O (b8_2.all' O) (Kx ?_)))
 have cc_0_2 : Ch No w w2 := (Ch.then (E := No) c1 c2)
 have CH_2 := cc_0_2
 refine ⟨?_, CH_2⟩
 first | (simp [Value.cells]; done)
theorem c_scatter (dst src jump count : Int) (w : World) :
  Calls prog 262 #[Kg dst, Kg src, Kg jump, Kg count] w (Ret (fun v w' => v = .agg #[Kg 2, Kg dst, Kg src, Kg jump, Kg count, Kg 0, Kg 0] ∧ Ch No w w')) := by
 refine Ku func262 O ntmps262 O (Kb (Km (Ck ζ135) O ?_))
 intro p1 w1 b8 c1 e1 z1
 refine Wy (Wu O O (Wu O O (Wu O O (Wu O O ?_))))
 refine Om (Ct O (bld135_0_1_2_3_4w13 O)) O (Ks (Cl ς135 O O O O b8) O ?_)
 intro w2 c2 z2 b8_2
 refine Ka (Qp (Rl O O ι135 ς135 O (b8_2.all' O) (Kx ?_)))
 have cc_0_2 : Ch No w w2 := (Ch.then (E := No) c1 c2)
 have CH_2 := cc_0_2
 refine ⟨?_, CH_2⟩
 first | (simp [Value.cells]; done)
theorem c_direct (xs xj xd n : Int) (w : World) :
  Calls prog 223 #[.agg #[Kg xs, Kg xj, Kg xd], Kg n] w (Ret (fun v w' => v = .agg #[Kg 6, Kg xd, Kg xs, Kg xj, Kg n, Kg n, Kg 0] ∧ Ch No w w')) := by
 refine Ku func223 O ntmps223 O (Kb (Km (Cp O) O ?_))
 intro p1 w1 b2 c1 e1 z1
 refine Km (Ck ζ135) O ?_
 intro p2 w2 b4 c2 e2 z2
 refine Wy (Om (Qh υ217 O ς3 O O O) O ?_)
 have b2_2 := b2.keep c2
 refine Om (Qg ι3 O (b2_2.cell O)) O (Om (Qh υ217 O ς3 O O O) O (Om (Qg ι3 O (b2_2.cell O)) O (Om (Qh υ217 O ς3 O O O) O (Om (Qg ι3 O (b2_2.cell O)) O (Wu O O (Wu O O (Om (Ct O (bld135_0_1_2_3_4_5w13 O)) O ?_)))))))
 refine Ks (Cl ς135 O O O O b4) O ?_
 intro w3 c3 z3 b4_3
 refine Ka (Qp (Rl O O ι135 ς135 O (b4_3.all' O) (Kx ?_)))
 have cc_0_3 : Ch No w w3 := (Ch.then (E := No) (c1.and c2) c3)
 have CH_3 := cc_0_3
 refine ⟨?_, CH_3⟩
 first | (simp [Value.cells]; done)
end Go.Tm
namespace Go.Tm
structure Bld where
  ln : Int
  cl : Int
  i0 : Int
  ou : Int
  steps : List Stp
  acts : Int
  fr : Int
def Bld.full (b : Bld) : Bool := decide (65536 < b.steps.length) || decide (262144 < b.cl) || decide (67108864 < b.acts)
def Bld.add (b : Bld) (s : Stp) : Bld := if b.full = true then b else { b with steps := b.steps ++ [s], acts := b.acts + actsM s }
def Bld.region (b : Bld) (n : Int) : Bld := { b with fr := b.fr + n, cl := if b.fr + n > b.cl then b.fr + n else b.cl }
structure Inst where
  src : Int
  jump : Int
  dst : Int
def gatherS (dst src jump count : Int) : Stp := ⟨1, dst, src, jump, count, 0, 0⟩
def scatterS (dst src jump count : Int) : Stp := ⟨2, dst, src, jump, count, 0, 0⟩
def zeroS (dst count : Int) : Stp := ⟨3, dst, 0, 0, count, 0, 0⟩
def twistS (dst count n k : Int) : Stp := ⟨4, dst, 0, 0, count, n, k⟩
def flyS (dst jump count r : Int) : Stp := ⟨5, dst, 0, jump, count, r, 0⟩
def directS (x : Inst) (n : Int) : Stp := ⟨6, x.dst, x.src, x.jump, n, n, 0⟩
def chirpS (dst count n : Int) : Stp := ⟨7, dst, 0, 0, count, n, 0⟩
def fillS (dst count n : Int) : Stp := ⟨8, dst, 0, 0, count, n, 0⟩
def tmsS (dst src count : Int) : Stp := ⟨9, dst, src, 0, count, 0, 0⟩
def conjS (dst count : Int) : Stp := ⟨10, dst, 0, 0, count, 0, 0⟩
def overS (dst count n : Int) : Stp := ⟨11, dst, 0, 0, count, n, 0⟩
structure Blu where
  n : Int
  m : Int
  u : Int
  v : Int
  p : Int
  q : Int
def Blu.first (w : Blu) (x : Inst) : List Stp := [gatherS w.u x.src x.jump w.n, zeroS (w.u + w.n) (w.m - w.n), chirpS w.u w.n w.n]
def Blu.fill (w : Blu) : Stp := fillS w.v w.m w.n
def Blu.second (w : Blu) : List Stp := [tmsS w.p w.q w.m, conjS w.p w.m]
def Blu.last (w : Blu) (x : Inst) : List Stp := [conjS w.u w.n, overS w.u w.n w.m, gatherS x.dst w.u 1 w.n, chirpS x.dst w.n w.n]
def Bld.adds (b : Bld) (l : List Stp) : Bld := l.foldl Bld.add b
def Blu.of (n m f : Int) : Blu := ⟨n, m, f, f + m, f + m + m, f + m + m + m⟩
def timesJ (rec : Inst → Bld → Bld) (x : Inst) (a b t : Int) (c : Bld) (j : Nat) : Bld :=
 let r := rec ⟨x.src + j * x.jump, x.jump * a, t + j * b⟩ c
 if (j : Int) > 0 then r.add (twistS (t + j * b) b (a * b) j) else r
def timesK (rec : Inst → Bld → Bld) (x : Inst) (a b t z : Int) (c : Bld) (k : Nat) : Bld :=
 (rec ⟨t + k, b, z⟩ c).add (scatterS (x.dst + k) z b a)
def timesM (recA recB : Inst → Bld → Bld) (isFly : Bool) (a b : Int) (x : Inst) (c : Bld) : Bld :=
 if isFly = true then ((List.range a.toNat).foldl (timesJ recB x a b x.dst) c).add (flyS x.dst b b a)
 else
  let c2 := (c.region (a * b)).region a
  (List.range b.toNat).foldl (timesK recA x a b c.fr (c.fr + a * b)) ((List.range a.toNat).foldl (timesJ recB x a b c.fr) c2)
def blueM (rec : Inst → Bld → Bld) (n m : Int) (x : Inst) (c : Bld) : Bld :=
 let w := Blu.of n m c.fr
 let c1 := ((((c.region m).region m).region m).region m).adds (w.first x)
 let c2 := rec ⟨w.u, 1, w.p⟩ c1
 let c3 := rec ⟨w.v, 1, w.q⟩ (c2.add w.fill)
 let c4 := rec ⟨w.p, 1, w.u⟩ (c3.adds w.second)
 c4.adds (w.last x)
def deepM : Ord → Inst → Bld → Bld
 | .mk k n ks, x, c =>
  if c.full = true then c else
  let r := if k = 1 then c.add (directS x n)
   else if k = 2 then (c.add (gatherS x.dst x.src x.jump n)).add (flyS x.dst 1 1 n)
   else if k = 3 then
    match ks with
    | [a, b] => timesM (deepM a) (deepM b) (decide (a.kind = 2)) a.len b.len x c
    | _ => c
   else if k = 4 then
    match ks with
    | [a] => blueM (deepM a) n a.len x c
    | _ => c
   else c
  { r with fr := c.fr }
theorem deepM_full {o : Ord} {x : Inst} {c : Bld} (h : c.full = true) : deepM o x c = c := by
 obtain ⟨k, n, ks⟩ := o; unfold deepM; rw [if_pos h]
theorem deepM_direct {o : Ord} {x : Inst} {c : Bld} (h : c.full = false) (hk : o.kind = 1) : deepM o x c = { c.add (directS x o.n) with fr := c.fr } := by
 obtain ⟨k, n, ks⟩ := o; simp only [Ord.kind] at hk; subst hk; unfold deepM; rw [if_neg (by simp [h])]; rfl
theorem deepM_fly {o : Ord} {x : Inst} {c : Bld} (h : c.full = false) (hk : o.kind = 2) : deepM o x c = { (c.add (gatherS x.dst x.src x.jump o.n)).add (flyS x.dst 1 1 o.n) with fr := c.fr } := by
 obtain ⟨k, n, ks⟩ := o; simp only [Ord.kind] at hk; subst hk; unfold deepM; rw [if_neg (by simp [h])]; rfl
theorem deepM_times {o a b : Ord} {x : Inst} {c : Bld} (h : c.full = false) (hk : o.kind = 3) (hab : o.kids = [a, b]) :
  deepM o x c = { timesM (deepM a) (deepM b) (decide (a.kind = 2)) a.len b.len x c with fr := c.fr } := by
 obtain ⟨k, n, ks⟩ := o; simp only [Ord.kind, Ord.kids] at hk hab; subst hk; subst hab; rw [deepM, if_neg (by simp [h])]; rfl
theorem deepM_blue {o a : Ord} {x : Inst} {c : Bld} (h : c.full = false) (hk : o.kind = 4) (hab : o.kids = [a]) :
  deepM o x c = { blueM (deepM a) o.n a.len x c with fr := c.fr } := by
 obtain ⟨k, n, ks⟩ := o; simp only [Ord.kind, Ord.kids] at hk hab; subst hk; subst hab; rw [deepM, if_neg (by simp [h])]; rfl
structure BdOk (b : Bld) : Prop where
  f0 : 0 ≤ b.fr
  f1 : b.fr ≤ b.cl
  c1 : b.cl ≤ 400000
  l1 : b.steps.length ≤ 65537
  a0 : 0 ≤ b.acts
  a1 : b.acts ≤ 67500000
theorem full_false {b : Bld} (h : b.full = false) : b.steps.length ≤ 65536 ∧ b.cl ≤ 262144 ∧ b.acts ≤ 67108864 := by
 simp only [Bld.full, Bool.or_eq_false_iff, decide_eq_false_iff_not] at h
 omega
theorem form_count {s : Stp} (h : formM s = true) : 1 ≤ s.count ∧ s.count ≤ 262144 := by
 unfold formM at h
 simp only at h
 by_cases h0 : 1 ≤ s.op ∧ s.op ≤ 11
 ·
  rw [if_neg (by simpa using h0)] at h
  generalize (if s.op = 5 then (2 : Int) else 1) = least at h
  cases hc : fromM true s.count 1 262144
  · rw [hc] at h; simp at h
  · simp [fromM] at hc; exact hc
 · rw [if_pos h0] at h; cases h
theorem actsM_bd (s : Stp) : 0 ≤ actsM s ∧ actsM s ≤ 262144 := by
 unfold actsM
 split
 · rename_i h; have := form_count h; omega
 · omega
theorem add_full {b : Bld} {s : Stp} (h : b.full = true) : b.add s = b := by unfold Bld.add; rw [if_pos h]
theorem add_not {b : Bld} {s : Stp} (h : b.full = false) : b.add s = { b with steps := b.steps ++ [s], acts := b.acts + actsM s } := by unfold Bld.add; rw [if_neg (by simp [h])]
theorem BdOk.add {b : Bld} (h : BdOk b) (s : Stp) : BdOk (b.add s) := by
 by_cases hf : b.full = true
 · rw [add_full hf]; exact h
 ·
  have hf : b.full = false := by simpa using hf
  have h1 := full_false hf
  have h2 := actsM_bd s
  obtain ⟨a1, a2, a3, a4, a5, a6⟩ := h
  rw [add_not hf]
  exact ⟨a1, a2, a3, by simp; omega, by simp only; omega, by simp only; omega⟩
theorem add_fr (b : Bld) (s : Stp) : (b.add s).fr = b.fr := by unfold Bld.add; split <;> rfl
theorem add_cl (b : Bld) (s : Stp) : (b.add s).cl = b.cl := by unfold Bld.add; split <;> rfl
theorem add_ln (b : Bld) (s : Stp) : (b.add s).ln = b.ln := by unfold Bld.add; split <;> rfl
theorem add_ou (b : Bld) (s : Stp) : (b.add s).ou = b.ou := by unfold Bld.add; split <;> rfl
theorem add_i0 (b : Bld) (s : Stp) : (b.add s).i0 = b.i0 := by unfold Bld.add; split <;> rfl
theorem BdOk.adds {b : Bld} (h : BdOk b) (l : List Stp) : BdOk (b.adds l) := by
 induction l generalizing b with
 | nil => exact h
 | cons s t ih => exact ih (h.add s)
theorem adds_snoc (b : Bld) (l : List Stp) (s : Stp) : b.adds (l ++ [s]) = (b.adds l).add s := by simp [Bld.adds]
theorem BdOk.region {b : Bld} (h : BdOk b) {n : Int} (h0 : 0 ≤ n) (h1 : b.fr + n ≤ 400000) : BdOk (b.region n) := by
 obtain ⟨a1, a2, a3, a4, a5, a6⟩ := h
 refine ⟨by simp only [Bld.region]; omega, ?_, ?_, a4, a5, a6⟩ <;> simp only [Bld.region] <;> split <;> omega
structure Kp (b b' : Bld) : Prop where
  ok : BdOk b'
  fr : b'.fr = b.fr
  cl : b.cl ≤ b'.cl
theorem Kp.refl {b : Bld} (h : BdOk b) : Kp b b := ⟨h, rfl, Int.le_refl _⟩
theorem Kp.trans {a b c : Bld} (h : Kp a b) (g : Kp b c) : Kp a c := ⟨g.ok, g.fr.trans h.fr, Int.le_trans h.cl g.cl⟩
theorem Kp.add {a b : Bld} (h : Kp a b) (s : Stp) : Kp a (b.add s) := ⟨h.ok.add s, (add_fr _ _).trans h.fr, by rw [add_cl]; exact h.cl⟩
theorem Kp.adds {a b : Bld} (h : Kp a b) (l : List Stp) : Kp a (b.adds l) := by
 induction l generalizing b with
 | nil => exact h
 | cons s t ih => exact ih (h.add s)
def Keeps (R : Inst → Bld → Bld) : Prop := ∀ x b, BdOk b → Kp b (R x b)
theorem foldl_keeps {F : Bld → Nat → Bld} (hF : ∀ b j, BdOk b → Kp b (F b j)) (l : List Nat) : ∀ b, BdOk b → Kp b (l.foldl F b) := by
 induction l with
 | nil => intro b h; exact Kp.refl h
 | cons j t ih =>
  intro b h
  exact (hF b j h).trans (ih _ (hF b j h).ok)
theorem timesJ_keeps {R : Inst → Bld → Bld} (hR : Keeps R) (x : Inst) (a b t : Int) (c : Bld) (j : Nat) (h : BdOk c) : Kp c (timesJ R x a b t c j) := by
 unfold timesJ
 simp only
 have h1 := hR ⟨x.src + j * x.jump, x.jump * a, t + j * b⟩ c h
 split
 · exact h1.add _
 · exact h1
theorem timesK_keeps {R : Inst → Bld → Bld} (hR : Keeps R) (x : Inst) (a b t z : Int) (c : Bld) (k : Nat) (h : BdOk c) : Kp c (timesK R x a b t z c k) := by
 unfold timesK
 exact (hR ⟨t + k, b, z⟩ c h).add _
theorem len_bd (o : Ord) : 0 ≤ o.len ∧ o.len ≤ 16384 := by
 have := wl_bd _ o 0 1 (Nat.lt_succ_self _) (by omega) (by omega)
 exact ⟨this.2.2.2.1, this.2.2.2.2⟩
inductive GO : Ord → Prop
  | direct {n : Int} : 1 ≤ n → n ≤ 64 → GO (.mk 1 n [])
  | fly {n : Int} : 2 ≤ n → n ≤ 5 → GO (.mk 2 n [])
  | times {a b : Ord} : GO a → GO b → 2 ≤ a.len → 2 ≤ b.len → a.len * b.len ≤ 16384 → GO (.mk 3 0 [a, b])
  | blue {n : Int} {a : Ord} : 2 ≤ n → n ≤ 16384 → GO a → 2 * n - 1 ≤ a.len → GO (.mk 4 n [a])
theorem region_cl (b : Bld) (n : Int) : b.cl ≤ (b.region n).cl := by simp only [Bld.region]; split <;> omega
theorem timesM_ok {RA RB : Inst → Bld → Bld} (hA : Keeps RA) (hB : Keeps RB) (f : Bool) {a b : Int} (x : Inst) {c : Bld} (hc : BdOk c) (hf : c.full = false) (ha : 2 ≤ a) (hb : 2 ≤ b) (hab : a * b ≤ 16384) : BdOk (timesM RA RB f a b x c) ∧ c.cl ≤ (timesM RA RB f a b x c).cl := by
 have h1 := full_false hf
 have hab0 : 0 ≤ a * b := Int.mul_nonneg (by omega) (by omega)
 have ha2 : a ≤ 16384 := by
  have := Int.mul_le_mul_of_nonneg_left (a := 2) (c := a) hb (by omega)
  omega
 have h2 := hc.f1
 unfold timesM
 split
 ·
  have := (foldl_keeps (fun c j h => timesJ_keeps hB x a b x.dst c j h) (List.range a.toNat) c hc).add (flyS x.dst b b a)
  exact ⟨this.ok, this.cl⟩
 ·
  simp only
  have hr : BdOk ((c.region (a * b)).region a) := by
   refine (hc.region hab0 (by omega)).region (by omega) ?_
   simp only [Bld.region]
   omega
  have h3 := foldl_keeps (fun d j h => timesJ_keeps hB x a b c.fr d j h) (List.range a.toNat) _ hr
  have h4 := h3.trans (foldl_keeps (fun d j h => timesK_keeps hA x a b c.fr (c.fr + a * b) d j h) (List.range b.toNat) _ h3.ok)
  exact ⟨h4.ok, Int.le_trans (Int.le_trans (region_cl _ _) (region_cl _ _)) h4.cl⟩
theorem blueM_ok {R : Inst → Bld → Bld} (hR : Keeps R) {n m : Int} (x : Inst) {c : Bld} (hc : BdOk c) (hf : c.full = false) (hm : 0 ≤ m) (hm2 : m ≤ 16384) : BdOk (blueM R n m x c) ∧ c.cl ≤ (blueM R n m x c).cl := by
 have h1 := full_false hf
 have h2 := hc.f1
 unfold blueM
 simp only
 have hr : BdOk ((((c.region m).region m).region m).region m) := by
  refine (((hc.region hm (by omega)).region hm ?_).region hm ?_).region hm ?_ <;> simp only [Bld.region] <;> omega
 have k1 := (Kp.refl hr).adds ((Blu.of n m c.fr).first x)
 have k2 := k1.trans (hR ⟨(Blu.of n m c.fr).u, 1, (Blu.of n m c.fr).p⟩ _ k1.ok)
 have k3 := k2.add (Blu.of n m c.fr).fill
 have k4 := k3.trans (hR ⟨(Blu.of n m c.fr).v, 1, (Blu.of n m c.fr).q⟩ _ k3.ok)
 have k5 := k4.adds (Blu.of n m c.fr).second
 have k6 := k5.trans (hR ⟨(Blu.of n m c.fr).p, 1, (Blu.of n m c.fr).u⟩ _ k5.ok)
 have k7 := k6.adds ((Blu.of n m c.fr).last x)
 exact ⟨k7.ok, Int.le_trans (Int.le_trans (Int.le_trans (Int.le_trans (region_cl _ _) (region_cl _ _)) (region_cl _ _)) (region_cl _ _)) k7.cl⟩
theorem deepM_keeps {o : Ord} (h : GO o) : Keeps (deepM o) := by
 have K : ∀ {o : Ord} {x : Inst} {b r : Bld}, BdOk b → BdOk r ∧ b.cl ≤ r.cl → deepM o x b = { r with fr := b.fr } → Kp b (deepM o x b) := by
  intro o x b r hb hr e
  rw [e]
  obtain ⟨⟨a1, a2, a3, a4, a5, a6⟩, h2⟩ := hr
  exact ⟨⟨hb.f0, by have := hb.f1; simp only; omega, a3, a4, a5, a6⟩, O, h2⟩
 have D : ∀ {o : Ord} (x : Inst) {b : Bld}, BdOk b → (b.full = false → Kp b (deepM o x b)) → Kp b (deepM o x b) := by
  intro o x b hb h
  by_cases hf : b.full = true
  · rw [deepM_full hf]; exact Kp.refl hb
  · exact h (by simpa using hf)
 induction h with
 | @direct n h1 h2 => exact fun x b hb => D x hb fun hf => K hb (by have := (Kp.refl hb).add (directS x n); exact ⟨this.ok, this.cl⟩) (deepM_direct hf rfl)
 | @fly n h1 h2 => exact fun x b hb => D x hb fun hf => K hb (by have := ((Kp.refl hb).add (gatherS x.dst x.src x.jump n)).add (flyS x.dst 1 1 n); exact ⟨this.ok, this.cl⟩) (deepM_fly hf rfl)
 | times _ _ h2 h3 h4 ia ib => exact fun x b hb => D x hb fun hf => K hb (timesM_ok ia ib _ x hb hf h2 h3 h4) (deepM_times hf rfl rfl)
 | blue _ _ _ _ ia => exact fun x b hb => D x hb fun hf => K hb (blueM_ok ia x hb hf (len_bd _).1 (len_bd _).2) (deepM_blue hf rfl rfl)
end Go.Tm
namespace Go.Tm
theorem wl_shift : ∀ (m : Nat) (o : Ord) (p d p' d' : Int), SizeOf.sizeOf o < m → (wl o p d).2 ≠ 0 → 0 ≤ p' → p' ≤ p → p ≤ 4096 → d' ≤ d → wl o p' d' = ((wl o p d).1 - (p - p'), (wl o p d).2)
 | 0, _, _, _, _, _, h, _, _, _, _, _ => by omega
 | m + 1, o, p, d, p', d', h, hz, h0, h1, h2, h3 => by
  by_cases hf : p + 1 > 4096 ∨ d > 16
  · rw [wl_full hf] at hz; exact absurd rfl hz
  have hf' : ¬ (p' + 1 > 4096 ∨ d' > 16) := by omega
  have hk := kids_lt o
  by_cases e0 : o.kids.length = 0
  ·
   have e0' := List.eq_nil_of_length_eq_zero e0
   rw [wl_leaf hf e0'] at hz ⊢
   rw [wl_leaf hf' e0']
   split
   · simp only [Prod.mk.injEq, and_true]; omega
   ·
    split
    · simp only [Prod.mk.injEq, and_true]; omega
    · rename_i h5 h6; rw [if_neg h5, if_neg h6] at hz; exact absurd rfl hz
  by_cases e1 : o.kids.length = 1
  ·
   obtain ⟨a, ha, e⟩ := kids1 (o := o) (by omega)
   have := kid_lt ha
   rw [wl_one hf e] at hz ⊢
   rw [wl_one hf' e]
   split
   ·
    rename_i h5
    rw [if_pos h5] at hz
    by_cases h6 : (wl a (p + 1) (d + 1)).2 < 2 * o.n - 1
    · rw [if_pos h6] at hz; exact absurd rfl hz
    ·
     have ia := wl_shift m a (p + 1) (d + 1) (p' + 1) (d' + 1) (by omega) (by omega) (by omega) (by omega) (by omega) (by omega)
     rw [if_neg h6, ia]
     simp only [if_neg h6, Prod.mk.injEq, and_true]; omega
   · rename_i h5; rw [if_neg h5] at hz; exact absurd rfl hz
  by_cases e2 : o.kids.length = 2
  ·
   obtain ⟨a, b, ha, hb, e⟩ := kids2 (o := o) (by omega)
   have := kid_lt ha
   have := kid_lt hb
   rw [wl_two hf e] at hz ⊢
   rw [wl_two hf' e]
   split
   ·
    rename_i h5
    rw [if_pos h5] at hz
    by_cases h6 : (wl a (p + 1) (d + 1)).2 < 2
    · rw [if_pos h6] at hz; exact absurd rfl hz
    ·
     rw [if_neg h6] at hz ⊢
     have ia := wl_shift m a (p + 1) (d + 1) (p' + 1) (d' + 1) (by omega) (by omega) (by omega) (by omega) (by omega) (by omega)
     have hbd := wl_bd _ a (p + 1) (d + 1) (Nat.lt_succ_self _) (by omega) (by omega)
     rw [ia]
     simp only [if_neg h6]
     generalize hq : wl a (p + 1) (d + 1) = q at *
     by_cases h7 : (wl b q.1 (d + 1)).2 < 2 ∨ q.2 * (wl b q.1 (d + 1)).2 > 16384
     · rw [if_pos h7] at hz; exact absurd rfl hz
     ·
      have ib := wl_shift m b q.1 (d + 1) (q.1 - (p + 1 - (p' + 1))) (d' + 1) (by omega) (by omega) (by omega) (by omega) (by omega) (by omega)
      rw [ib, if_neg h7]
      simp only [if_neg h7, Prod.mk.injEq, and_true]; omega
   · rename_i h5; rw [if_neg h5] at hz; exact absurd rfl hz
  · rw [wl_more hf (by omega)] at hz; exact absurd rfl hz
def sl (o : Ord) : Int := if o.kind = 3 then (match o.kids with | [a, b] => a.len * b.len | _ => 0) else o.n
theorem wl_sl (m : Nat) (o : Ord) (p d : Int) (h : SizeOf.sizeOf o < m + 1) (hz : (wl o p d).2 ≠ 0) (h0 : 0 ≤ p) (h1 : p ≤ 4096) (h2 : 1 ≤ d)
  (_ih : ∀ (a : Ord) (p d : Int), SizeOf.sizeOf a < m → (wl a p d).2 ≠ 0 → 0 ≤ p → p ≤ 4096 → 1 ≤ d → (wl a p d).2 = sl a) : (wl o p d).2 = sl o := by
 by_cases hf : p + 1 > 4096 ∨ d > 16
 · rw [wl_full hf] at hz; exact absurd rfl hz
 have hk := kids_lt o
 by_cases e0 : o.kids.length = 0
 ·
  have e0' := List.eq_nil_of_length_eq_zero e0
  rw [wl_leaf hf e0'] at hz ⊢
  by_cases h5 : o.kind = 1 ∧ 1 ≤ o.n ∧ o.n ≤ 64
  · rw [if_pos h5, sl, if_neg (by omega)]
  ·
   by_cases h5' : o.kind = 2 ∧ 2 ≤ o.n ∧ o.n ≤ 5
   · rw [if_neg h5, if_pos h5', sl, if_neg (by omega)]
   · rw [if_neg h5, if_neg h5'] at hz; exact absurd rfl hz
 by_cases e1 : o.kids.length = 1
 ·
  obtain ⟨a, ha, e⟩ := kids1 (o := o) (by omega)
  rw [wl_one hf e] at hz ⊢
  by_cases h5 : o.kind = 4 ∧ 2 ≤ o.n ∧ o.n ≤ 16384
  ·
   rw [if_pos h5] at hz ⊢
   by_cases h6 : (wl a (p + 1) (d + 1)).2 < 2 * o.n - 1
   · rw [if_pos h6] at hz; exact absurd rfl hz
   · rw [if_neg h6, sl, if_neg (by omega)]
  · rw [if_neg h5] at hz; exact absurd rfl hz
 by_cases e2 : o.kids.length = 2
 ·
  obtain ⟨a, b, ha, hb, e⟩ := kids2 (o := o) (by omega)
  rw [wl_two hf e] at hz ⊢
  by_cases h5 : o.kind = 3 ∧ o.n = 0
  ·
   rw [if_pos h5] at hz ⊢
   by_cases h6 : (wl a (p + 1) (d + 1)).2 < 2
   · rw [if_pos h6] at hz; exact absurd rfl hz
   ·
    rw [if_neg h6] at hz ⊢
    have hbd := wl_bd _ a (p + 1) (d + 1) (Nat.lt_succ_self _) (by omega) (by omega)
    have il : a.len = (wl a (p + 1) (d + 1)).2 := by
     unfold Ord.len; rw [wl_shift _ a (p + 1) (d + 1) 0 1 (Nat.lt_succ_self _) (by omega) (by omega) (by omega) (by omega) (by omega)]
    generalize hq : wl a (p + 1) (d + 1) = q at *
    by_cases h7 : (wl b q.1 (d + 1)).2 < 2 ∨ q.2 * (wl b q.1 (d + 1)).2 > 16384
    · rw [if_pos h7] at hz; exact absurd rfl hz
    ·
     have il2 : b.len = (wl b q.1 (d + 1)).2 := by
      unfold Ord.len; rw [wl_shift _ b q.1 (d + 1) 0 1 (Nat.lt_succ_self _) (by omega) (by omega) (by omega) (by omega) (by omega)]
     rw [if_neg h7, sl, if_pos h5.1, e]
     simp only [il, il2]
  · rw [if_neg h5] at hz; exact absurd rfl hz
 · rw [wl_more hf (by omega)] at hz; exact absurd rfl hz
theorem go_of_wl : ∀ (m : Nat) (o : Ord) (p d : Int), SizeOf.sizeOf o < m → (wl o p d).2 ≠ 0 → 0 ≤ p → p ≤ 4096 → 1 ≤ d → GO o ∧ (wl o p d).2 = sl o
 | 0, _, _, _, h, _, _, _, _ => by omega
 | m + 1, o, p, d, h, hz, h0, h1, h2 => by
  refine ⟨?_, ?_⟩
  rotate_left
  · exact wl_sl m o p d h hz h0 h1 h2 fun a p d h hz h0 h1 h2 => (go_of_wl m a p d h hz h0 h1 h2).2
  by_cases hf : p + 1 > 4096 ∨ d > 16
  · rw [wl_full hf] at hz; exact absurd rfl hz
  have hk := kids_lt o
  by_cases e0 : o.kids.length = 0
  ·
   have e0' := List.eq_nil_of_length_eq_zero e0
   rw [wl_leaf hf e0'] at hz
   by_cases h5 : o.kind = 1 ∧ 1 ≤ o.n ∧ o.n ≤ 64
   ·
    obtain ⟨k, n, ks⟩ := o
    simp only [Ord.kids, Ord.kind, Ord.n] at e0' h5
    subst e0'
    obtain ⟨rfl, h6, h7⟩ := h5; exact .direct h6 h7
   ·
    by_cases h5' : o.kind = 2 ∧ 2 ≤ o.n ∧ o.n ≤ 5
    ·
     obtain ⟨k, n, ks⟩ := o
     simp only [Ord.kids, Ord.kind, Ord.n] at e0' h5'
     subst e0'
     obtain ⟨rfl, h6, h7⟩ := h5'; exact .fly h6 h7
    · rw [if_neg h5, if_neg h5'] at hz; exact absurd rfl hz
  by_cases e1 : o.kids.length = 1
  ·
   obtain ⟨a, ha, e⟩ := kids1 (o := o) (by omega)
   have := kid_lt ha
   rw [wl_one hf e] at hz
   by_cases h5 : o.kind = 4 ∧ 2 ≤ o.n ∧ o.n ≤ 16384
   ·
    rw [if_pos h5] at hz
    by_cases h6 : (wl a (p + 1) (d + 1)).2 < 2 * o.n - 1
    · rw [if_pos h6] at hz; exact absurd rfl hz
    ·
     have ia := (go_of_wl m a (p + 1) (d + 1) (by omega) (by omega) (by omega) (by omega) (by omega)).1
     have il : a.len = (wl a (p + 1) (d + 1)).2 := by
      unfold Ord.len; rw [wl_shift _ a (p + 1) (d + 1) 0 1 (Nat.lt_succ_self _) (by omega) (by omega) (by omega) (by omega) (by omega)]
     obtain ⟨k, n, ks⟩ := o
     simp only [Ord.kids, Ord.kind, Ord.n] at *
     subst e
     obtain ⟨rfl, h7, h8⟩ := h5
     exact .blue h7 h8 ia (by omega)
   · rw [if_neg h5] at hz; exact absurd rfl hz
  by_cases e2 : o.kids.length = 2
  ·
   obtain ⟨a, b, ha, hb, e⟩ := kids2 (o := o) (by omega)
   have := kid_lt ha
   have := kid_lt hb
   rw [wl_two hf e] at hz
   by_cases h5 : o.kind = 3 ∧ o.n = 0
   ·
    rw [if_pos h5] at hz
    by_cases h6 : (wl a (p + 1) (d + 1)).2 < 2
    · rw [if_pos h6] at hz; exact absurd rfl hz
    ·
     rw [if_neg h6] at hz
     have hbd := wl_bd _ a (p + 1) (d + 1) (Nat.lt_succ_self _) (by omega) (by omega)
     have ia := (go_of_wl m a (p + 1) (d + 1) (by omega) (by omega) (by omega) (by omega) (by omega)).1
     have il : a.len = (wl a (p + 1) (d + 1)).2 := by
      unfold Ord.len; rw [wl_shift _ a (p + 1) (d + 1) 0 1 (Nat.lt_succ_self _) (by omega) (by omega) (by omega) (by omega) (by omega)]
     generalize hq : wl a (p + 1) (d + 1) = q at *
     by_cases h7 : (wl b q.1 (d + 1)).2 < 2 ∨ q.2 * (wl b q.1 (d + 1)).2 > 16384
     · rw [if_pos h7] at hz; exact absurd rfl hz
     ·
      have ib := (go_of_wl m b q.1 (d + 1) (by omega) (by omega) (by omega) (by omega) (by omega)).1
      have il2 : b.len = (wl b q.1 (d + 1)).2 := by
       unfold Ord.len; rw [wl_shift _ b q.1 (d + 1) 0 1 (Nat.lt_succ_self _) (by omega) (by omega) (by omega) (by omega) (by omega)]
      obtain ⟨k, n, ks⟩ := o
      simp only [Ord.kids, Ord.kind, Ord.n] at *
      subst e
      obtain ⟨rfl, rfl⟩ := h5
      rw [← il, ← il2] at h7
      exact .times ia ib (by omega) (by omega) (by omega)
   · rw [if_neg h5] at hz; exact absurd rfl hz
  · rw [wl_more hf (by omega)] at hz; exact absurd rfl hz
theorem GO.of_len {o : Ord} (h : o.len ≠ 0) : GO o := (go_of_wl _ o 0 1 (Nat.lt_succ_self _) h (by omega) (by omega) (by omega)).1
theorem len_sl {o : Ord} (h : o.len ≠ 0 := by omega) : o.len = sl o := (go_of_wl _ o 0 1 (Nat.lt_succ_self _) h (by omega) (by omega) (by omega)).2
end Go.Tm
namespace Go.Tm
set_option maxRecDepth 100000
open Go.RowKit Go.Proofs Go.Proofs.Tryz
abbrev bldV (b : Bld) (A : Option Addr) (c : Nat) : Array Value := #[.int .i64 b.ln, .int .i64 b.cl, .int .i64 b.i0, .int .i64 b.ou, .slice A b.steps.length c, .int .i64 b.acts, .int .i64 b.fr]
def flatS (l : List Stp) : List Value := l.flatMap Stp.cells
theorem flatS_snoc (l : List Stp) (s : Stp) : flatS (l ++ [s]) = flatS l ++ s.cells := by simp [flatS]
theorem flatS_get : ∀ (L : List Stp) (i : Nat) (s : Stp), L[i]? = some s → ∀ j v, s.cells[j]? = some v → (flatS L)[i * 7 + j]? = some v
 | [], _, _, h, _, _, _ => by simp at h
 | t :: L, 0, s, h, j, v, hj => by
  simp at h; subst h
  have hl : j < t.cells.length := (List.getElem?_eq_some_iff.1 hj).1
  show (t.cells ++ flatS L)[0 * 7 + j]? = some v
  rw [Nat.zero_mul, Nat.zero_add, List.getElem?_append_left hl]; exact hj
 | t :: L, i + 1, s, h, j, v, hj => by
  simp only [List.getElem?_cons_succ] at h
  show (t.cells ++ flatS L)[(i + 1) * 7 + j]? = some v
  have h7 : t.cells.length = 7 := rfl
  rw [List.getElem?_append_right (by rw [h7]; omega), h7, show (i + 1) * 7 + j - 7 = i * 7 + j by omega]
  exact flatS_get L i s h j v hj
theorem sl_step {S : Nat → Prop} {w : World} {A : Option Addr} {l : Nat} {L : List Stp} (h : SlR S w A l 7 (flatS L)) (hl : l = L.length) {i : Nat} {s : Stp} (hi : L[i]? = some s) : CaR S w ((sAddr A).add (i * 7)) s.cells := by
 have hlt := (List.getElem?_eq_some_iff.1 hi).1
 obtain ⟨ad, had⟩ := h.ne (by omega)
 refine ⟨h.part (i := i) (by omega) (flatS_get L i s hi), ?_⟩
 rw [add_block]; subst had; exact h.ok ad rfl
abbrev QR (q r : Nat) : Nat → Prop := fun x => x = q ∨ r = x + 1
structure BB (w : World) (q r : Nat) (b : Bld) : Prop where
  ex : ∃ A c, Bk w q (bldV b A c) 178 ∧ Ow w r 135 7 A b.steps.length c (flatS b.steps)
theorem BB.to {D : Nat → Prop} {w w' : World} {q r : Nat} {b : Bld} (h : BB w q r b) (c : Ch D w w') (hd : ∀ x, x < w.heap.size → QR q r x → isC w x → ¬ D x := by first | exact fun _ _ _ _ => id | (intro q h1 h2 hx h3; omega)) : BB w' q r b := by
 obtain ⟨A, k, h1, h2⟩ := h
 exact ⟨A, k, h1.to c (hd q h1.lt (.inl O) ⟨_, _, _, h1.blk⟩), h2.to c (fun x h3 h4 h5 => hd x h3 (.inr h4) h5)⟩
theorem BB.keep {w w' : World} {q r : Nat} {b : Bld} (h : BB w q r b) (c : Ch No w w') : BB w' q r b := h.to c fun _ _ _ _ => id
theorem BB.lt {w : World} {q r : Nat} {b : Bld} (h : BB w q r b) : q < w.heap.size ∧ r ≤ w.heap.size ∧ r ≠ q + 1 := by
 obtain ⟨A, k, h1, h2⟩ := h
 refine ⟨h1.lt, h2.lt, fun e => ?_⟩
 rcases h2.2 with ⟨_, _, _, h⟩ | ⟨g, cur, _, h3, h4, _⟩
 · omega
 ·
  have : g = q := by omega
  subst this
  rw [h1.blk] at h4
  injection h4 with h4
  injection h4 with _ h5
  exact absurd h5 (by decide)
structure XOk (x : Inst) (L : Int) : Prop where
  s0 : 0 ≤ x.src
  j1 : 1 ≤ x.jump
  jl : x.jump * L ≤ 16384
  sj : x.src + x.jump * (L - 1) ≤ 1000000
  d0 : 0 ≤ x.dst
  dl : x.dst + L ≤ 1000000
abbrev instV (x : Inst) : Value := .agg #[.int .i64 x.src, .int .i64 x.jump, .int .i64 x.dst]
abbrev stpV (s : Stp) : Value := .agg #[.int .i64 s.op, .int .i64 s.dst, .int .i64 s.src, .int .i64 s.jump, .int .i64 s.count, .int .i64 s.n, .int .i64 s.k]
abbrev bluV (W : Blu) : Value := .agg #[.int .i64 W.n, .int .i64 W.m, .int .i64 W.u, .int .i64 W.v, .int .i64 W.p, .int .i64 W.q]
def DeepOk (o : Ord) : Prop := ∀ (A : Option Addr) (c lo hi q r : Nat) (x : Inst) (b : Bld) (w : World), RdK (In lo hi) w A o.kids → hi ≤ w.heap.size → (q < lo ∨ hi ≤ q) → (r ≤ lo ∨ hi < r) → 24 ≤ q → (r = 0 ∨ 24 < r) → BB w q r b → BdOk b → XOk x (sl o) → StT w →
 Calls prog 173 #[Kh q, ordV o A c, instV x] w (Ret fun v w' => ∃ r', v = .tuple #[] ∧ BB w' q r' (deepM o x b) ∧ (r' = r ∨ w.heap.size < r') ∧ Ch (QR q r) w w')
theorem xok_inner {x : Inst} {a b j t : Int} (h : XOk x (a * b)) (ha : 2 ≤ a) (hb : 2 ≤ b) (hab : a * b ≤ 16384) (h0 : 0 ≤ j := by omega) (hj : j < a := by omega) (t0 : 0 ≤ t := by omega) (t1 : t + a * b ≤ 1000000 := by omega) :
  XOk ⟨x.src + j * x.jump, x.jump * a, t + j * b⟩ b ∧ (0 ≤ j * x.jump ∧ j * x.jump ≤ 16384) ∧ (0 ≤ x.jump * a ∧ x.jump * a ≤ 16384) ∧ (0 ≤ j * b ∧ j * b + b ≤ a * b) ∧ a ≤ 16384 ∧ b ≤ 16384 ∧ x.src ≤ 1000000 ∧ x.dst ≤ 1000000 := by
 obtain ⟨s0, j1, jl, sj, d0, dl⟩ := h
 have e1 : (j + 1) * b ≤ a * b := Int.mul_le_mul_of_nonneg_right (by omega) (by omega)
 have e2 : 0 ≤ j * b := Int.mul_nonneg h0 (by omega)
 have e3 : (j + 1) * b = j * b + b := by rw [Int.add_mul, Int.one_mul]
 have e4 : 0 ≤ j * x.jump := Int.mul_nonneg h0 (by omega)
 have e5 : (j + 1) * x.jump ≤ a * x.jump := Int.mul_le_mul_of_nonneg_right (by omega) (by omega)
 have e6 : (j + 1) * x.jump = j * x.jump + x.jump := by rw [Int.add_mul, Int.one_mul]
 have e7 : a * x.jump = x.jump * a := Int.mul_comm _ _
 have e8 : x.jump * a * b = x.jump * (a * b) := Int.mul_assoc _ _ _
 have e9 : x.jump * a * 2 ≤ x.jump * a * b := Int.mul_le_mul_of_nonneg_left hb (Int.mul_nonneg (by omega) (by omega))
 have e10 : 0 ≤ x.jump * a := Int.mul_nonneg (by omega) (by omega)
 have e11 : x.jump * (a * b - 1) = x.jump * (a * b) - x.jump := by rw [Int.mul_sub, Int.mul_one]
 have e12 : x.jump * a * (b - 1) = x.jump * a * b - x.jump * a := by rw [Int.mul_sub, Int.mul_one]
 have e13 : 2 * b ≤ a * b := Int.mul_le_mul_of_nonneg_right ha (by omega)
 have e14 : a * 2 ≤ a * b := Int.mul_le_mul_of_nonneg_left hb (by omega)
 have e15 : 0 ≤ x.jump * (a * b - 1) := Int.mul_nonneg (by omega) (by omega)
 have e16 : 1 * (a * b) ≤ x.jump * (a * b) := Int.mul_le_mul_of_nonneg_right j1 (by omega)
 have e17 : 1 * a ≤ x.jump * a := Int.mul_le_mul_of_nonneg_right j1 (by omega)
 refine ⟨⟨by simp only; omega, by simp only; omega, by simp only; omega, by simp only; omega, by simp only; omega, by simp only; omega⟩, by omega, by omega, by omega, by omega, by omega, by omega, by omega⟩
theorem xok_outer {a b k t z : Int} (ha : 2 ≤ a) (hb : 2 ≤ b) (hab : a * b ≤ 16384) (h0 : 0 ≤ k := by omega) (hk : k < b := by omega) (t0 : 0 ≤ t := by omega) (t1 : t + a * b ≤ 1000000 := by omega) (z0 : 0 ≤ z := by omega) (z1 : z + a ≤ 1000000 := by omega) : XOk ⟨t + k, b, z⟩ a := by
 have e1 : b * a = a * b := Int.mul_comm _ _
 have e2 : b * (a - 1) = b * a - b := by rw [Int.mul_sub, Int.mul_one]
 have e14 : a * 2 ≤ a * b := Int.mul_le_mul_of_nonneg_left hb (by omega)
 exact ⟨by simp only; omega, by simp only; omega, by simp only; omega, by simp only; omega, z0, z1⟩
theorem xok_one {s d m : Int} (hs : 0 ≤ s) (hs2 : s + m ≤ 1000000) (hm : m ≤ 16384) (hd : 0 ≤ d) (hd2 : d + m ≤ 1000000) : XOk ⟨s, 1, d⟩ m := ⟨hs, by simp only; omega, by simp only; omega, by simp only; omega, hd, hd2⟩
theorem BdOk.bd {b : Bld} (h : BdOk b) : 0 ≤ b.fr ∧ b.fr ≤ 400000 ∧ 0 ≤ b.cl ∧ b.cl ≤ 400000 ∧ b.steps.length ≤ 65537 ∧ 0 ≤ b.acts ∧ b.acts ≤ 67500000 := by
 obtain ⟨h1, h2, h3, h4, h5, h6⟩ := h; omega
theorem Ow.to' {w : World} {r : Nat} {e : TypeId} {sz : Nat} {A : Option Addr} {l l' c : Nat} {cs cs' : List Value} (h : Ow w r e sz A l c cs) (hl : l = l') (hc : cs = cs') : Ow w r e sz A l' c cs' := by subst hl; subst hc; exact h
theorem inf135w14 : Inf prog 135 (.agg #[.int .i64 0, .int .i64 0, .int .i64 0, .int .i64 0, .int .i64 0, .int .i64 0, .int .i64 0]) 7 56 := ⟨Tryz.t135, type135, rfl, rfl, rfl⟩
theorem build135w14 {ps : List (Nat × Value)} {cs : Array Value} (h : Instr.fill (fun i => ([(0, 1), (1, 1), (2, 1), (3, 1), (4, 1), (5, 1), (6, 1)] : List (Nat × Nat))[i]?) #[.int .i64 0, .int .i64 0, .int .i64 0, .int .i64 0, .int .i64 0, .int .i64 0, .int .i64 0] ps = some cs) (w : World) : (Instr.build 135 ps.toArray).run prog w = .ok (.agg cs) w := by
 simp [Instr.build, runUnderlying135, ζ135, ς3, Value.cells, h]
theorem build275w14 {ps : List (Nat × Value)} {cs : Array Value} (h : Instr.fill (fun i => ([(0, 1), (1, 1), (2, 1), (3, 1), (4, 1), (5, 1)] : List (Nat × Nat))[i]?) #[.int .i64 0, .int .i64 0, .int .i64 0, .int .i64 0, .int .i64 0, .int .i64 0] ps = some cs) (w : World) : (Instr.build 275 ps.toArray).run prog w = .ok (.agg cs) w := by
 simp [Instr.build, runUnderlying275, ζ275, ς3, Value.cells, h]
theorem bld135_0_1_2_4w14 {v0 v1 v2 v4 : Value} (h : [v0, v1, v2, v4].all Value.oneCell' = true) : BLD prog 135 [(0, v0), (1, v1), (2, v2), (4, v4)] #[v0, v1, v2, .int .i64 0, v4, .int .i64 0, .int .i64 0] := build135w14 (fill1 _ _ _ h rfl)
theorem bld135_0_1_4w14 {v0 v1 v4 : Value} (h : [v0, v1, v4].all Value.oneCell' = true) : BLD prog 135 [(0, v0), (1, v1), (4, v4)] #[v0, v1, .int .i64 0, .int .i64 0, v4, .int .i64 0, .int .i64 0] := build135w14 (fill1 _ _ _ h rfl)
theorem bld135_0_1_4_5w14 {v0 v1 v4 v5 : Value} (h : [v0, v1, v4, v5].all Value.oneCell' = true) : BLD prog 135 [(0, v0), (1, v1), (4, v4), (5, v5)] #[v0, v1, .int .i64 0, .int .i64 0, v4, v5, .int .i64 0] := build135w14 (fill1 _ _ _ h rfl)
theorem bld275_0_1_2_3_4_5w14 {v0 v1 v2 v3 v4 v5 : Value} (h : [v0, v1, v2, v3, v4, v5].all Value.oneCell' = true) : BLD prog 275 [(0, v0), (1, v1), (2, v2), (3, v3), (4, v4), (5, v5)] #[v0, v1, v2, v3, v4, v5] := build275w14 (fill1 _ _ _ h rfl)
theorem bb_full (q r : Nat) (b : Bld) (w : World) (hb : BB w q r b) :
  Calls prog 175 #[Kh q] w (Ret (fun v w' => v = .bool b.full ∧ w = w')) := by
 obtain ⟨A, c, bb, row⟩ := hb
 refine Ku func175 O ntmps175 O (Kb (Ww O O (Wy ?_)))
 refine Wu O O (Om (Qq O) O (Om (Qh υ178 O ς98 O O O) O (Om (Qh υ98 O ς96 O O O) O (Om (Qg ι96 O (bb.cell O)) O (Om (Cs υ96 O) O (Om (Rb O O) O (Wu O O ?_)))))))
 refine Cz (b := _) 7 10 17 O (fun hc1 Jhc1 => by
   refine Oy O (Oy O (Oy O (Oy O (Oy O (Oy O (Om (Qr O O) O ?_))))))
   exact (Qo O (Qo O (Qo O (Qo O (Qo O (Qo O Jhc1))))))) (fun hc1 Jhc1 => by
   try simp only [bX] at hc1
   refine Wu O O (Om (Qq O) O (Om (Qh υ178 O ς98 O O O) O (Om (Qh υ98 O ς3 O O O) O (Om (Qg ι3 O (bb.cell O)) O (Om (Rb O O) O (Om (Qm O O) O ?_))))))
   exact (Qo O (Qo O (Qo O (Qo O (Qo O (Qo O Jhc1))))))) ?_
 refine Wu O O ?_
 refine Cz (b := _) 6 18 24 O (fun hc2 Jhc2 => by
   refine Oy O (Oy O (Oy O (Oy O (Oy O (Om (Qr O O) O ?_)))))
   exact (Qo O (Qo O (Qo O (Qo O (Qo O Jhc2)))))) (fun hc2 Jhc2 => by
   try simp only [bX] at hc2
   refine Wu O O (Om (Qq O) O (Om (Qh υ178 O ς3 O O O) O (Om (Qg ι3 O (bb.cell O)) O (Om (Rb O O) O (Om (Qm O O) O ?_)))))
   exact (Qo O (Qo O (Qo O (Qo O (Qo O Jhc2)))))) ?_
 refine Ww O O (Ka (Qp (Qx O O (Kx (⟨congrArg _ ?_, O⟩)))))
 rw [Bool.eq_iff_iff]; simp [Bld.full] <;> omega
theorem bb_region (q r : Nat) (b : Bld) (x : Int) (w : World) (hb : BB w q r b) (ok : BdOk b) (h3 : 0 ≤ x := by omega) (h4 : x ≤ 1000000 := by omega) :
  Calls prog 172 #[Kh q, Kg x] w (Ret (fun v w' => v = Kg b.fr ∧ BB w' q r (b.region x) ∧ Ch (Is q) w w')) := by
 obtain ⟨A, c, bb, row⟩ := hb
 have okb := ok.bd
 have lr := row.lt; have ls := BB.lt ⟨A, c, bb, row⟩
 refine Ku func172 O ntmps172 O (Kb (Ww O O (Wy ?_)))
 refine Wu O O (Om (Qq O) O (Om (Qh υ178 O ς3 O O O) O (Om (Qg ι3 O (bb.cell O)) O (Ww O O (Wz ?_)))))
 refine Qb (Wu O O (Om (Qq O) O (Om (Qh υ178 O ς3 O O O) O (Om (Qg ι3 O (bb.cell O)) O (Wu O O ?_)))))
 refine Om (Cd O O) O ?_
 refine Om (Qq O) O (Om (Qh υ178 O ς3 O O O) O (Ks (Rk ς3 O O O O bb O) O ?_))
 intro w1 c1 z1 bb_1
 refine Wz (Wj 14 (.mv 0 (.mv 1 (.mv 2 (.mv 3 (.mv 4 (.mv 6 (.mv 7 (.mv 8 (.two 5 (.wk 9 (.mv 10 (.mv 11 (.mv 12 (.mv 13 .nil))))) 9 (.wk 5 (.mv 10 (.mv 11 (.mv 12 (.mv 13 .nil)))))))))))))) (fun w1 w' => Ch (Is q) w1 w') mixed (by kernel_rfl) (fun _ _ => Ch.refl _ _) ?_)
 intro w2 D2
 have c2 := Ch.of_drew D2; have z2 := c2.size
 refine Rc (fun w' hS => Qc O) O O O O (Rc (fun w' hS => Qc O) O O O O (Rc (fun w' hS => Qq O) O O O O (Rc (fun w' hS => Qh υ178 O ς98 O O O) O O O O (Rc (fun w' hS => Qh υ98 O ς3 O O O) O O O O (Rc (fun w' hS => Qc O) O O O O (Rc (fun w' hS => Qq O) O O O O (Rc (fun w' hS => Qh υ178 O ς3 O O O) O O O O ?_)))))))
 refine Wl ?_ ?_
 ·
  have bb_2 := bb_1.keep c2
  refine Ru (Qg ι3 O (bb_2.cell O)) O O O O (Ch.refl (Is q) w2) (Ru (Qg ι3 O (bb_2.cell O)) O O O O (Ch.refl (Is q) w2) (Rc (fun w' hS => Rn.max2 O O) O O O O (Rc (fun w' hS => Qq O) O O O O (Rc (fun w' hS => Qh υ178 O ς98 O O O) O O O O (Rc (fun w' hS => Qh υ98 O ς3 O O O) O O O O (Rr (Ks (Rk ς3 O O O O bb_2 O) O ?_)))))))
  intro w3 c3 z3 bb_3
  refine Qf (Ca (Qa (Kb (Wu O O (Ww O O (Qf ?_))))))
  refine Qa (Qp (Qx O O (Kx ?_)))
  have row_1 := row.to c1
  have row_2 := row_1.keep c2
  have row_3 := row_2.to c3
  have CH_1 : Ch (Is q) w w1 := (Ch.refl (Is q) w).then c1
  have CH_2 := CH_1.and c2
  have CH_3 : Ch (Is q) w w3 := CH_2.then c3
  exact ⟨O, ⟨A, c, bb_3, row_3⟩, CH_3⟩
 have bb_2 := bb_1.keep c2
 refine Ru (Qg ι3 O (bb_2.cell O)) O O O O (Ch.refl (Is q) w2) (Ru (Qg ι3 O (bb_2.cell O)) O O O O (Ch.refl (Is q) w2) (Rc (fun w' hS => Rn.max2 O O) O O O O (Rc (fun w' hS => Qq O) O O O O (Rc (fun w' hS => Qh υ178 O ς98 O O O) O O O O (Rc (fun w' hS => Qh υ98 O ς3 O O O) O O O O (Rr (Ks (Rk ς3 O O O O bb_2 O) O ?_)))))))
 intro w4 c4 z4 bb_4
 refine Qf (Ca (Qa (Kb (Wu O O (Ww O O (Qf ?_))))))
 refine Qa (Qp (Qx O O (Kx ?_)))
 have row_1 := row.to c1
 have row_2 := row_1.keep c2
 have row_4 := row_2.to c4
 have CH_1 : Ch (Is q) w w1 := (Ch.refl (Is q) w).then c1
 have CH_2 := CH_1.and c2
 have CH_4 : Ch (Is q) w w4 := CH_2.then c4
 exact ⟨O, ⟨A, c, bb_4, row_4⟩, CH_4⟩
theorem bb_add (q r : Nat) (b : Bld) (s : Stp) (w : World) (hb : BB w q r b) (ok : BdOk b) (st : StT w) (hn : -1000000000 ≤ s.n ∧ s.n ≤ 1000000000) (hq : 24 ≤ q := by omega) (hr : r = 0 ∨ 24 < r := by omega) :
  Calls prog 222 #[Kh q, stpV s] w (Ret (fun v w' => ∃ r', v = .tuple #[] ∧ BB w' q r' (b.add s) ∧ (r' = r ∨ w.heap.size < r') ∧ Ch (QR q r) w w')) := by
 obtain ⟨A, c, bb, row⟩ := hb
 have okb := ok.bd
 have lr := row.lt; have ls := BB.lt ⟨A, c, bb, row⟩; have lq := bb.lt; have lac := actsM_bd s
 refine Ku func222 O ntmps222 O (Kb (Km (Cp O) O ?_))
 intro p1 w1 b3 c1 e1 z1
 refine Wz (Kb (Wu O O ?_))
 have bb_1 := bb.keep c1
 have row_1 := row.keep c1
 refine Oq (Qi call175 O (bb_full _ _ b _ ⟨_, _, bb_1, row_1⟩)) O ?_
 rintro _ _ ⟨rfl, rfl⟩
 refine Ka (Cq O (fun hc1 => ?_) (fun hc1 => ?_))
 ·
  try simp only [bX] at hc1
  refine Qp (Qw (VQ.ret0 O (Kx ?_)))
  have CH_1 := (Ch.refl (QR q r) w).and c1
  exact ⟨r, O, by rw [add_full hc1]; exact ⟨A, c, bb_1, row_1⟩, .inl O, CH_1⟩
 try simp only [bX] at hc1
 have hb2 := full_false hc1
 refine Qn (Qa (Qe (Kj 12 [0, 2, 4, 6, 8, 10, 12, 15, 17, 18, 20, 22] (At r) ?_)))
 intro w2 c2 z2
 have bb_2 := bb_1.keep c2
 have row_2 := row_1.keep c2
 have b3_2 := b3.keep c2
 refine Wv O O (Wv O O (Ws (Qq O) O (Ws (Qh υ178 O ς98 O O O) O (Ws (Qh υ98 O ς96 O O O) O (Wt (fun hS => Qg ι96 O ((bb_2.to hS).cell O)) O (Wt (fun hS => Qz ι135 ς135 O O ((b3_2.to hS).all' O)) O (Kr 7 1 (Kl υ96 inf135w14 O O) O ?_)))))))
 intro p3 w3 l13 l13o c3 e3 z3
 have RD_3 := (Ch.refl (At r) w2).and c3
 refine ⟨RD_3, ?_⟩
 have row_3 := row_2.keep c3
 refine Hq (Cm (S := _) υ96 inf135w14 O (by decide) O O row_3 l13 (by rfl) (fun h => by simp at h) (by omega) (by simp only [maxLen]; omega)) O ?_
 rintro _ w4 ⟨r4, A4, k4, rfl, o4, c4, q4⟩
 have z4 := c4.size
 have y4 := o4.lt
 have RD_4 : Ch (At r) w2 w4 := RD_3.then c4
 refine ⟨RD_4, ?_⟩
 refine Ws (Qq O) O (Ws (Qh υ178 O ς98 O O O) O (Ws (Qh υ98 O ς96 O O O) O (Cj ?_)))
 have bb_3 := bb_2.keep c3
 have bb_4 := bb_3.to c4
 refine Ks (Rk ς96 O O O O bb_4 O) O ?_
 intro w5 c5 z5 bb_5
 refine Qf (Ca (Qa (Kj 9 [0, 2, 4, 6, 8, 11, 12, 14, 16] (No) ?_)))
 intro w6 c6 z6
 have bb_6 := bb_5.keep c6
 have row_5 := o4.to c5
 have row_6 := row_5.keep c6
 have b3_3 := b3_2.keep c3
 have b3_4 := b3_3.to c4
 have b3_5 := b3_4.to c5
 have b3_6 := b3_5.keep c6
 have l13o_4 := l13o.to c4
 have l13o_5 := l13o_4.to c5
 have l13o_6 := l13o_5.keep c6
 refine Wv O O (Ws (Qq O) O (Ws (Qh υ178 O ς3 O O O) O (Wt (fun hS => Qg ι3 O ((bb_6.keep hS).cell O)) O (Wt (fun hS => Qz ι135 ς135 O O ((b3_6.keep hS).all' O)) O ?_))))
 have st_3 := st.keep (c1.trans (c2.trans c3))
 have st_4 := st_3.to c4
 have st_5 := st_4.to c5
 have st_6 := st_5.keep c6
 refine Hq (Qi call259 O (steps_Acts s _ st_6 hn)) O ?_
 rintro _ w7 ⟨rfl, c7⟩
 have z7 := c7.size
 have RD_7 := (Ch.refl (No) w6).and c7
 refine ⟨RD_7, ?_⟩
 refine Ws (Cd O O) O ?_
 refine Ws (Qq O) O (Ws (Qh υ178 O ς3 O O O) O (Cj ?_))
 have bb_7 := bb_6.keep c7
 refine Ks (Rk ς3 O O O O bb_7 O) O ?_
 intro w8 c8 z8 bb_8
 refine Qf (Ca (Rp O (Kx ?_)))
 have row_7 := row_6.keep c7
 have row_8 := row_7.to c8
 have yr := row_8.lt
 have CH_3 := (Ch.refl (QR q r) w).and (c1.trans (c2.trans c3))
 have CH_4 : Ch (QR q r) w w4 := CH_3.then c4
 have CH_5 : Ch (QR q r) w w5 := CH_4.then c5
 have CH_7 := CH_5.and (c6.trans c7)
 have CH_8 : Ch (QR q r) w w8 := CH_7.then c8
 exact ⟨_, O, by rw [add_not hc1]; exact ⟨A4, k4, (by show Bk _ _ #[_, _, _, _, .slice _ (b.steps ++ [s]).length _, _, _] _; rw [List.length_append]; exact bb_8), (row_8).to' (by simp) (by rw [flatS_snoc]; simp [flat, Value.cells, Stp.cells])⟩, by omega, CH_8⟩
theorem c_size (o a e : Ord) (A : Option Addr) (c lo hi : Nat) (w : World) (kd : RdK (In lo hi) w A o.kids) (hh : hi ≤ w.heap.size) (hab : o.kids = [a, e]) :
  Calls prog 260 #[ordV o A c] w (Ret (fun v w' => v = .tuple #[Kg a.len, Kg e.len, .bool (decide (a.kind = 2))] ∧ Ch No w w')) := by
 have ha : o.kids[0]? = some a := by rw [hab]; rfl
 have he : o.kids[1]? = some e := by rw [hab]; rfl
 have hkl : o.kids.length = 2 := by rw [hab]; rfl
 have kdo := kd
 refine Ku func260 O ntmps260 O (Kb (Km (Cp O) O ?_))
 intro p1 w1 b1 c1 e1 z1
 refine Ww O O (Ww O O (Ww O O (Wz ?_)))
 have kd_1 := kd.keep c1
 obtain ⟨kA, kc, ka, kr⟩ := kd_1.kid ha
 obtain ⟨kB, kc2, kb, ks⟩ := kd_1.kid he
 refine Kj 18 [0, 2, 4, 6, 10, 12, 14, 16, 20, 22, 24, 26, 28, 30, 9, 19, 32, 34] (No) ?_
 intro w2 c2 z2
 have b1_2 := b1.keep c2
 have ka_2 := ka.keep c2
 have kb_2 := kb.keep c2
 refine Ws (Qh υ53 O ς51 O O O) O (Wt (fun hS => Qg ι51 O ((b1_2.keep hS).cell O)) O ?_)
 have kd_2 := kd_1.keep c2
 refine Ws (Qs υ51 ς53 O O (kd_2.ne (by omega))) O (Wt (fun hS => Qz ι53 ς53 O O (ka_2.keep hS).1) O (Ws (Qh υ53 O ς51 O O O) O (Wt (fun hS => Qg ι51 O ((b1_2.keep hS).cell O)) O (Ws (Qs υ51 ς53 O O (kd_2.ne (by omega))) O (Wt (fun hS => Qz ι53 ς53 O O (kb_2.keep hS).1) O (Ws (Qh υ53 O ς51 O O O) O (Wt (fun hS => Qg ι51 O ((b1_2.keep hS).cell O)) O ?_)))))))
 refine Ws (Qs υ51 ς53 O O (kd_2.ne (by omega))) O (Ws (Rn.fieldA υ53 O ς3 O O O) O (Wt (fun hS => Qg ι3 O ((ka_2.keep hS).1 0 _ O)) O (Ws (Cg O O) O ?_)))
 have kr_2 := kr.keep c2
 refine Hq (Qi κ170 O (order_Length a _ _ _ _ _ kr_2)) O ?_
 rintro _ w3 ⟨rfl, c3⟩
 have z3 := c3.size
 have RD_3 := (Ch.refl (No) w2).and c3
 refine ⟨RD_3, ?_⟩
 have ks_3 := ks.keep (c2.trans c3)
 refine Hq (Qi κ170 O (order_Length e _ _ _ _ _ ks_3)) O ?_
 rintro _ w4 ⟨rfl, c4⟩
 have z4 := c4.size
 have RD_4 := RD_3.and c4
 refine ⟨RD_4, ?_⟩
 refine Wx O O (Wx O O (Cj (Ww O O (Qf (Ca (Qa (Qp ?_)))))))
 refine VQ.ret3 O O O O (Kx ?_)
 have CH_4 := (c1.trans (c2.trans (c3.trans c4)))
 exact ⟨O, CH_4⟩
set_option maxHeartbeats 1000000 in
theorem bl_first (W : Blu) (x : Inst) (w : World) (hW : 0 ≤ W.n ∧ W.n ≤ 16384 ∧ 0 ≤ W.m ∧ W.m ≤ 16384 ∧ 0 ≤ W.u ∧ W.u ≤ 1000000) :
  Calls prog 264 #[bluV W, instV x] w (Ret (fun v w' => ∃ A c, v = .slice A 3 c ∧ SlR (In w.heap.size w'.heap.size) w' A 3 7 (flatS (W.first x)) ∧ Ch No w w')) := by
 refine Ku func264 O ntmps264 O (Kb (Km (Cp O) O ?_))
 intro p1 w1 b2 c1 e1 z1
 refine Km (Cp O) O ?_
 intro p2 w2 b3 c2 e2 z2
 refine Ww O O (Wz (Kj 28 [0, 2, 4, 6, 8, 10, 12, 14, 18, 20, 22, 24, 26, 28, 30, 32, 34, 36, 38, 40, 42, 44, 46, 48, 50, 52, 17, 55] (No) ?_))
 intro w3 c3 z3
 have b2_3 := b2.keep (c2.trans c3)
 have b3_3 := b3.keep c3
 refine Ws (Qh υ275 O ς3 O O O) O (Wt (fun hS => Qg ι3 O ((b2_3.keep hS).cell O)) O (Ws (Qh υ217 O ς3 O O O) O (Wt (fun hS => Qg ι3 O ((b3_3.keep hS).cell O)) O (Ws (Qh υ217 O ς3 O O O) O (Wt (fun hS => Qg ι3 O ((b3_3.keep hS).cell O)) O (Ws (Qh υ275 O ς3 O O O) O (Wt (fun hS => Qg ι3 O ((b2_3.keep hS).cell O)) O ?_)))))))
 refine Ws (Qh υ275 O ς3 O O O) O (Wt (fun hS => Qg ι3 O ((b2_3.keep hS).cell O)) O (Ws (Qh υ275 O ς3 O O O) O (Wt (fun hS => Qg ι3 O ((b2_3.keep hS).cell O)) O ?_)))
 refine Ws (Cd O O) O ?_
 refine Ws (Qh υ275 O ς3 O O O) O (Wt (fun hS => Qg ι3 O ((b2_3.keep hS).cell O)) O (Ws (Qh υ275 O ς3 O O O) O (Wt (fun hS => Qg ι3 O ((b2_3.keep hS).cell O)) O ?_)))
 refine Ws (Rg O O) O ?_
 refine Ws (Ct O (bld135_0_1_4w14 O)) O (Ws (Qh υ275 O ς3 O O O) O (Wt (fun hS => Qg ι3 O ((b2_3.keep hS).cell O)) O (Ws (Qh υ275 O ς3 O O O) O (Wt (fun hS => Qg ι3 O ((b2_3.keep hS).cell O)) O (Ws (Qh υ275 O ς3 O O O) O (Wt (fun hS => Qg ι3 O ((b2_3.keep hS).cell O)) O (Ws (Ct O (bld135_0_1_4_5w14 O)) O ?_)))))))
 refine Hq (Qi call224 O (c_gather _ _ _ _ _)) O ?_
 rintro _ w4 ⟨rfl, c4⟩
 have z4 := c4.size
 have RD_4 := (Ch.refl (No) w3).and c4
 refine ⟨RD_4, ?_⟩
 refine Kr 7 3 (Kl υ96 inf135w14 O O) O ?_
 intro p5 w5 l32 l32o c5 e5 z5
 have RD_5 := RD_4.and c5
 refine ⟨RD_5, ?_⟩
 refine Cj (Ww O O (Qf (Ca (Qa (Qp (Qx O O (Kx ?_)))))))
 have CH_5 := (c1.trans (c2.trans (c3.trans (c4.trans c5))))
 have zz := CH_5.size
 exact ⟨_, _, O, (l32).weak (fun y h => ⟨by omega, by omega⟩), CH_5⟩
set_option maxHeartbeats 1000000 in
theorem bl_second (W : Blu) (w : World) (hW : 0 ≤ W.n ∧ W.n ≤ 16384 ∧ 0 ≤ W.m ∧ W.m ≤ 16384 ∧ 0 ≤ W.u ∧ W.u ≤ 1000000) :
  Calls prog 266 #[bluV W] w (Ret (fun v w' => ∃ A c, v = .slice A 2 c ∧ SlR (In w.heap.size w'.heap.size) w' A 2 7 (flatS (W.second)) ∧ Ch No w w')) := by
 refine Ku func266 O ntmps266 O (Kb (Km (Cp O) O ?_))
 intro p1 w1 b1 c1 e1 z1
 refine Ww O O (Wy (Om (Qh υ275 O ς3 O O O) O (Om (Qg ι3 O (b1.cell O)) O (Om (Qh υ275 O ς3 O O O) O ?_))))
 refine Om (Qg ι3 O (b1.cell O)) O (Om (Qh υ275 O ς3 O O O) O (Om (Qg ι3 O (b1.cell O)) O (Om (Ct O (bld135_0_1_2_4w14 O)) O (Om (Qh υ275 O ς3 O O O) O (Om (Qg ι3 O (b1.cell O)) O (Om (Qh υ275 O ς3 O O O) O (Om (Qg ι3 O (b1.cell O)) O ?_)))))))
 refine Om (Ct O (bld135_0_1_4w14 O)) O (Kq 7 2 (Kl υ96 inf135w14 O O) O ?_)
 intro p2 w2 l15 l15o c2 e2 z2
 refine Ww O O (Ka (Qp (Qx O O (Kx ?_))))
 have CH_2 := (c1.trans c2)
 have zz := CH_2.size
 exact ⟨_, _, O, (l15).weak (fun y h => ⟨by omega, by omega⟩), CH_2⟩
set_option maxHeartbeats 1000000 in
theorem bl_last (W : Blu) (x : Inst) (w : World) (hW : 0 ≤ W.n ∧ W.n ≤ 16384 ∧ 0 ≤ W.m ∧ W.m ≤ 16384 ∧ 0 ≤ W.u ∧ W.u ≤ 1000000) :
  Calls prog 267 #[bluV W, instV x] w (Ret (fun v w' => ∃ A c, v = .slice A 4 c ∧ SlR (In w.heap.size w'.heap.size) w' A 4 7 (flatS (W.last x)) ∧ Ch No w w')) := by
 refine Ku func267 O ntmps267 O (Kb (Km (Cp O) O ?_))
 intro p1 w1 b2 c1 e1 z1
 refine Km (Cp O) O ?_
 intro p2 w2 b3 c2 e2 z2
 refine Ww O O (Wz (Kj 27 [0, 2, 4, 6, 8, 10, 12, 14, 16, 18, 20, 22, 24, 26, 28, 30, 32, 34, 38, 40, 42, 44, 46, 48, 50, 37, 53] (No) ?_))
 intro w3 c3 z3
 have b2_3 := b2.keep (c2.trans c3)
 have b3_3 := b3.keep c3
 refine Ws (Qh υ275 O ς3 O O O) O (Wt (fun hS => Qg ι3 O ((b2_3.keep hS).cell O)) O (Ws (Qh υ275 O ς3 O O O) O (Wt (fun hS => Qg ι3 O ((b2_3.keep hS).cell O)) O (Ws (Ct O (bld135_0_1_4w14 O)) O (Ws (Qh υ275 O ς3 O O O) O (Wt (fun hS => Qg ι3 O ((b2_3.keep hS).cell O)) O (Ws (Qh υ275 O ς3 O O O) O ?_)))))))
 refine Wt (fun hS => Qg ι3 O ((b2_3.keep hS).cell O)) O (Ws (Qh υ275 O ς3 O O O) O (Wt (fun hS => Qg ι3 O ((b2_3.keep hS).cell O)) O (Ws (Ct O (bld135_0_1_4_5w14 O)) O (Ws (Qh υ217 O ς3 O O O) O (Wt (fun hS => Qg ι3 O ((b3_3.keep hS).cell O)) O (Ws (Qh υ275 O ς3 O O O) O (Wt (fun hS => Qg ι3 O ((b2_3.keep hS).cell O)) O ?_)))))))
 refine Ws (Qh υ275 O ς3 O O O) O (Wt (fun hS => Qg ι3 O ((b2_3.keep hS).cell O)) O (Ws (Qh υ217 O ς3 O O O) O (Wt (fun hS => Qg ι3 O ((b3_3.keep hS).cell O)) O (Ws (Qh υ275 O ς3 O O O) O (Wt (fun hS => Qg ι3 O ((b2_3.keep hS).cell O)) O (Ws (Qh υ275 O ς3 O O O) O (Wt (fun hS => Qg ι3 O ((b2_3.keep hS).cell O)) O ?_)))))))
 refine Ws (Ct O (bld135_0_1_4_5w14 O)) O (Hq (Qi call224 O (c_gather _ _ _ _ _)) O ?_)
 rintro _ w4 ⟨rfl, c4⟩
 have z4 := c4.size
 have RD_4 := (Ch.refl (No) w3).and c4
 refine ⟨RD_4, ?_⟩
 refine Kr 7 4 (Kl υ96 inf135w14 O O) O ?_
 intro p5 w5 l31 l31o c5 e5 z5
 have RD_5 := RD_4.and c5
 refine ⟨RD_5, ?_⟩
 refine Cj (Ww O O (Qf (Ca (Qa (Qp (Qx O O (Kx ?_)))))))
 have CH_5 := (c1.trans (c2.trans (c3.trans (c4.trans c5))))
 have zz := CH_5.size
 exact ⟨_, _, O, (l31).weak (fun y h => ⟨by omega, by omega⟩), CH_5⟩
theorem bl_fill (W : Blu) (w : World) :
  Calls prog 265 #[bluV W] w (Ret (fun v w' => v = stpV W.fill ∧ Ch No w w')) := by
 refine Ku func265 O ntmps265 O (Kb (Km (Cp O) O ?_))
 intro p1 w1 b1 c1 e1 z1
 refine Km (Ck ζ135) O ?_
 intro p2 w2 b2 c2 e2 z2
 refine Wy (Om (Qh υ275 O ς3 O O O) O ?_)
 have b1_2 := b1.keep c2
 refine Om (Qg ι3 O (b1_2.cell O)) O (Om (Qh υ275 O ς3 O O O) O (Om (Qg ι3 O (b1_2.cell O)) O (Om (Qh υ275 O ς3 O O O) O (Om (Qg ι3 O (b1_2.cell O)) O (Om (Ct O (bld135_0_1_4_5w14 O)) O (Ks (Cl ς135 O O O O b2) O ?_))))))
 intro w3 c3 z3 b2_3
 refine Ka (Qp (Rl O O ι135 ς135 O (b2_3.all' O) (Kx ?_)))
 have cc_0_3 : Ch No w w3 := (Ch.then (E := No) (c1.and c2) c3)
 have CH_3 := cc_0_3
 exact ⟨O, CH_3⟩
set_option maxHeartbeats 400000 in
theorem b_blue (q r : Nat) (b : Bld) (o a : Ord) (A : Option Addr) (c lo hi : Nat) (w : World) (kd : RdK (In lo hi) w A o.kids) (hh : hi ≤ w.heap.size) (hab : o.kids = [a]) (bb : BB w q r b) (ok : BdOk b) (hf : b.fr ≤ 262144) (hq2 : q < lo ∨ hi ≤ q) :
  Calls prog 263 #[Kh q, ordV o A c] w (Ret (fun v w' => v = bluV (Blu.of o.n a.len b.fr) ∧ BB w' q r ((((b.region a.len).region a.len).region a.len).region a.len) ∧ Ch (Is q) w w')) := by
 have ha : o.kids[0]? = some a := by rw [hab]; rfl
 have hkl : o.kids.length = 1 := by rw [hab]; rfl
 have kdo := kd
 have hm := len_bd a
 have lb := bb.lt
 have ok1 := ok.region (n := a.len) (by omega) (by omega)
 have ok2 := ok1.region (n := a.len) (by omega) (by simp only [Bld.region]; omega)
 have ok3 := ok2.region (n := a.len) (by omega) (by simp only [Bld.region]; omega)
 refine Ku func263 O ntmps263 O (Kb (Km (Cp O) O ?_))
 intro p1 w1 b3 c1 e1 z1
 refine Km (Ck ζ275) O ?_
 intro p2 w2 b4 c2 e2 z2
 refine Wz ?_
 have kd_2 := kd.keep (c1.trans c2)
 obtain ⟨kA, kc, ka, kr⟩ := kd_2.kid ha
 refine Qb (Om (Qh υ53 O ς51 O O O) O ?_)
 have b3_2 := b3.keep c2
 refine Om (Qg ι51 O (b3_2.cell O)) O (Om (Qs υ51 ς53 O O (kd_2.ne (by omega))) O (Om (Qz ι53 ς53 O O ka.1) O (Oq (Qi κ170 O (order_Length a _ _ _ _ _ kr)) O ?_)))
 rintro _ w3 ⟨rfl, c3⟩
 have z3 := c3.size
 refine Ww O O (Wz (Kj 16 [0, 2, 4, 6, 8, 12, 14, 18, 20, 24, 26, 11, 17, 23, 29, 30] (Is q) ?_))
 intro w4 c4 z4
 have b3_4 := b3_2.keep (c3.trans c4)
 have b4_4 := b4.keep (c3.trans c4)
 have ka_4 := ka.keep (c3.trans c4)
 refine Ws (Qh υ53 O ς3 O O O) O (Wt (fun hS => Qg ι3 O ((b3_4.to hS).cell O)) O (Wv O O (Wv O O (Wv O O (Wv O O (Wv O O (Wv O O ?_)))))))
 refine Wv O O (Wv O O (Wv O O ?_))
 have bb_4 := bb.keep (c1.trans (c2.trans (c3.trans c4)))
 refine Hq (Qi κ172 O (bb_region _ _ (b) _ _ bb_4 ok)) O ?_
 rintro _ w5 ⟨rfl, bb5, c5⟩
 have z5 := c5.size
 have RD_5 : Ch (Is q) w4 w5 := (Ch.refl (Is q) w4).then c5
 refine ⟨RD_5, ?_⟩
 refine Hq (Qi κ172 O (bb_region _ _ (b.region a.len) _ _ bb5 ok1)) O ?_
 rintro _ w6 ⟨rfl, bb6, c6⟩
 have z6 := c6.size
 have RD_6 : Ch (Is q) w4 w6 := RD_5.then c6
 refine ⟨RD_6, ?_⟩
 refine Hq (Qi κ172 O (bb_region _ _ ((b.region a.len).region a.len) _ _ bb6 ok2)) O ?_
 rintro _ w7 ⟨rfl, bb7, c7⟩
 have z7 := c7.size
 have RD_7 : Ch (Is q) w4 w7 := RD_6.then c7
 refine ⟨RD_7, ?_⟩
 refine Hq (Qi κ172 O (bb_region _ _ (((b.region a.len).region a.len).region a.len) _ _ bb7 ok3)) O ?_
 rintro _ w8 ⟨rfl, bb8, c8⟩
 have z8 := c8.size
 have RD_8 : Ch (Is q) w4 w8 := RD_7.then c8
 refine ⟨RD_8, ?_⟩
 refine Ws (Ct (v := bluV (Blu.of o.n a.len b.fr)) O (bld275_0_1_2_3_4_5w14 O)) O (Cj ?_)
 have b4_5 := b4_4.to c5
 have b4_6 := b4_5.to c6
 have b4_7 := b4_6.to c7
 have b4_8 := b4_7.to c8
 refine Ks (Cl ς275 O O O O b4_8) O ?_
 intro w9 c9 z9 b4_9
 refine Qf (Ca (Qa (Qp (Rl O O ι275 ς275 O (b4_9.all' O) (Kx ?_)))))
 have bb_9 := bb8.to c9
 have CH_4 := (Ch.refl (Is q) w).and (c1.trans (c2.trans (c3.trans c4)))
 have CH_5 : Ch (Is q) w w5 := CH_4.then c5
 have CH_6 : Ch (Is q) w w6 := CH_5.then c6
 have CH_7 : Ch (Is q) w w7 := CH_6.then c7
 have CH_8 : Ch (Is q) w w8 := CH_7.then c8
 have CH_9 : Ch (Is q) w w9 := CH_8.then c9
 exact ⟨O, bb_9, CH_9⟩
end Go.Tm
