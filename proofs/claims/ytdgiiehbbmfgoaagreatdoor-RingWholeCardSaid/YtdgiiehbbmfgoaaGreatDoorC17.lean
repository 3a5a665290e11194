/- Lemmas of this claim, joined by program. Walks of functions: the law RingWhole's own answers; convolutions by Fast. Conditions: each lemma names its own. -/
import Derived.Test.YtdgiiehbbmfgoaaGreatDoorC16
set_option linter.all false
namespace Go.Tm
open Go.RowKit Go.Proofs
abbrev re (gs : List Gs) (j : Nat) : Int := (gs.getD j (0, 0)).1
abbrev im (gs : List Gs) (j : Nat) : Int := (gs.getD j (0, 0)).2
def rowG (n : Nat) (f : Nat → Gs) : List Gs := (List.range n).map f
theorem rowG_get {n k : Nat} {f : Nat → Gs} (h : k < n) : (rowG n f).getD k (0, 0) = f k := by simp [rowG, List.getD, h]
theorem rowG_congr {n : Nat} {f g : Nat → Gs} (h : ∀ k, k < n → f k = g k) : rowG n f = rowG n g := List.map_congr_left fun k hk => h k (by simpa using hk)
theorem rowG_zero (n : Nat) : rowG n (fun _ => (0, 0)) = List.replicate n (0, 0) := List.ext_getElem (by simp [rowG]) (by intros; simp [rowG])
theorem rowG_set {n m : Nat} {f : Nat → Gs} {v : Gs} (_h : m < n) : (rowG n f).set m v = rowG n (fun k => if k = m then v else f k) := by
  apply List.ext_getElem
  · simp [rowG]
  · intro i h1 h2
    simp only [rowG, List.getElem_set, List.getElem_map, List.getElem_range]
    by_cases c : m = i
    · rw [if_pos c, if_pos c.symm]
    · rw [if_neg c, if_neg (fun e => c e.symm)]
theorem SlR.hi {S : Nat → Prop} {w : World} {A : Option Addr} {l : Nat} {cs : List Value} (h : SlR S w A l 1 cs) {i : Nat} (hi : i ≤ l) : SlR S w A i 1 (cs.take i) := by
  have := SlR.sub (c := l + 1) h (i := 0) (j := i) (by omega) hi (by omega)
  rw [if_neg (by omega)] at this
  have e : A.map (·.add (0 * 1)) = A := by cases A <;> simp [Addr.add]
  simpa [e] using this
theorem SlR.hiI {S : Nat → Prop} {w : World} {A : Option Addr} {l : Nat} {ls : List Int} (h : SlR S w A l 1 (ls.map IV)) {i : Nat} (hi : i ≤ l) : SlR S w A i 1 ((ls.take i).map IV) := by
  have := SlR.hi h hi; rwa [← List.map_take] at this
theorem SlR.hiC {S : Nat → Prop} {w : World} {A : Option Addr} {l : Nat} {ls : List CB} (h : SlR S w A l 1 (ls.map cxV)) {i : Nat} (hi : i ≤ l) : SlR S w A i 1 ((ls.take i).map cxV) := by
  have := SlR.hi h hi; rwa [← List.map_take] at this
theorem take_getDC {ls : List CB} {i j : Nat} (h : j < i) : (ls.take i).getD j (0, 0) = ls.getD j (0, 0) := by
  simp only [List.getD, List.getElem?_take, if_pos h]
def gq (ls : List Int) (i : Nat) : Gs := ((ls.getD (2 * i) 0).tmod 262144, (ls.getD (2 * i + 1) 0).tmod 262144)
def gsM (ls : List Int) (h : Nat) : List Gs := rowG h (gq ls)
def csM (ls : List Int) (h : Nat) : List CB := (List.range h).map (fun i => (FloatKind.f64.nearest (gq ls i).1, FloatKind.f64.nearest (gq ls i).2))
def l1 (ls : List Int) (i : Nat) : Nat := (gq ls i).1.natAbs + (gq ls i).2.natAbs
theorem gsM_succ (ls : List Int) (h : Nat) : gVs (gsM ls (h + 1)) = gVs (gsM ls h) ++ [.int .i64 (gq ls h).1, .int .i64 (gq ls h).2] := by
  rw [gsM, rowG, List.range_succ, List.map_append, gVs_append]; rfl
theorem csM_succ (ls : List Int) (h : Nat) : (csM ls (h + 1)).map cxV = (csM ls h).map cxV ++ [.complex .f64 (FloatKind.f64.nearest (gq ls h).1) (FloatKind.f64.nearest (gq ls h).2)] := by simp [csM, List.range_succ]
theorem tm18 (x : Int) : -262144 < x.tmod 262144 ∧ x.tmod 262144 < 262144 := by
  have h1 := Int.tmod_lt_of_pos x (show (0 : Int) < 262144 by decide)
  have h2 := Int.tmod_lt_of_pos (-x) (show (0 : Int) < 262144 by decide)
  rw [Int.neg_tmod] at h2
  omega
theorem l1_bd (ls : List Int) (i : Nat) : l1 ls i ≤ 524286 := by
  have h1 := tm18 (ls.getD (2 * i) 0); have h2 := tm18 (ls.getD (2 * i + 1) 0)
  show ((ls.getD (2 * i) 0).tmod 262144).natAbs + ((ls.getD (2 * i + 1) 0).tmod 262144).natAbs ≤ _
  omega
theorem whole_step {ls : List Int} {j : Nat} {i S : Int} (hi : i = 2 * (j : Int)) (hS : S = (nsum (l1 ls) j : Nat)) :
    S + ((if (ls.getD i.toNat 0).tmod 262144 < -(ls.getD i.toNat 0).tmod 262144 then -(ls.getD i.toNat 0).tmod 262144 else (ls.getD i.toNat 0).tmod 262144) + (if (ls.getD (i + 1).toNat 0).tmod 262144 < -(ls.getD (i + 1).toNat 0).tmod 262144 then -(ls.getD (i + 1).toNat 0).tmod 262144 else (ls.getD (i + 1).toNat 0).tmod 262144)) = (nsum (l1 ls) (j + 1) : Nat) := by
  rw [show i.toNat = 2 * j by omega, show (i + 1).toNat = 2 * j + 1 by omega, hS]
  show _ = ((nsum (l1 ls) j + l1 ls j : Nat) : Int)
  have e : l1 ls j = ((ls.getD (2 * j) 0).tmod 262144).natAbs + ((ls.getD (2 * j + 1) 0).tmod 262144).natAbs := rfl
  rw [e]
  generalize (ls.getD (2 * j) 0).tmod 262144 = a
  generalize (ls.getD (2 * j + 1) 0).tmod 262144 = b
  split <;> split <;> omega
theorem gsM_re {ls : List Int} {h k : Nat} (hk : k < h) : re (gsM ls h) k = (gq ls k).1 ∧ im (gsM ls h) k = (gq ls k).2 := by
  unfold re im gsM; rw [rowG_get hk]; exact ⟨rfl, rfl⟩
theorem nsum_congr {f g : Nat → Nat} : ∀ n, (∀ i, i < n → f i = g i) → nsum f n = nsum g n
  | 0, _ => rfl
  | n + 1, h => by rw [nsum, nsum, nsum_congr n (fun i hi => h i (by omega)), h n (by omega)]
theorem gsM_GB {ls : List Int} {h : Nat} (hs : nsum (l1 ls) h ≤ 33554432) : GB (re (gsM ls h)) (im (gsM ls h)) h := ⟨by
  rw [nsum_congr (g := l1 ls) h (fun i hi => by rw [(gsM_re hi).1, (gsM_re hi).2]; rfl)]; exact hs⟩
theorem csM_WhU (ls : List Int) (h : Nat) : WhU h (re (gsM ls h)) (im (gsM ls h)) h (csM ls h) := by
  refine ⟨by simp [csM], fun k hk => ?_⟩
  have e : (csM ls h).getD k (0, 0) = (FloatKind.f64.nearest (gq ls k).1, FloatKind.f64.nearest (gq ls k).2) := by simp [csM, List.getD, hk]
  rw [e, (gsM_re hk).1, (gsM_re hk).2]
  have h1 := tm18 (ls.getD (2 * k) 0); have h2 := tm18 (ls.getD (2 * k + 1) 0)
  exact whC_int (sm_of (by show _ ≤ (ls.getD (2 * k) 0).tmod 262144; omega) (by show (ls.getD (2 * k) 0).tmod 262144 ≤ _; omega)) (sm_of (by show _ ≤ (ls.getD (2 * k + 1) 0).tmod 262144; omega) (by show (ls.getD (2 * k + 1) 0).tmod 262144 ≤ _; omega))
theorem WhU.eqs {n : Nat} {f g : Nat → Int} {xs ys : List CB} (h1 : WhU n f g n xs) (h2 : WhU n f g n ys) (hs : ∀ j, j < n → Sm (f j) ∧ Sm (g j)) (j : Nat) (hj : j < n) : ceq (xs.getD j (0, 0)) (ys.getD j (0, 0)) = true :=
  ceq_true (h1.get j hj) (h2.get j hj) (hs j hj).1 (hs j hj).2
section
variable {la lb : Nat} {us vs xs ys : Nat → Int}
theorem linT_le (g1 : GB us vs la) (g2 : GB xs ys lb) (k i : Nat) : (linT lb (fR us vs xs ys) k i).natAbs ≤ ((us i).natAbs + (vs i).natAbs) * 33554432 ∧ (linT lb (fI us vs xs ys) k i).natAbs ≤ ((us i).natAbs + (vs i).natAbs) * 33554432 := by
  unfold linT
  by_cases c : i ≤ k ∧ k - i < lb
  · rw [if_pos c, if_pos c]
    have h := g_bd (us i) (vs i) (xs (k - i)) (ys (k - i))
    have h2 : ((us i).natAbs + (vs i).natAbs) * ((xs (k - i)).natAbs + (ys (k - i)).natAbs) ≤ ((us i).natAbs + (vs i).natAbs) * 33554432 := Nat.mul_le_mul_left _ (g2.el c.2)
    exact ⟨Nat.le_trans h.1 h2, Nat.le_trans h.2 h2⟩
  · rw [if_neg c, if_neg c]; simp
theorem lin_bd (g1 : GB us vs la) (g2 : GB xs ys lb) (k : Nat) {i : Nat} (hi : i ≤ la) : (lin lb (fR us vs xs ys) i k).natAbs ≤ 1125899906842624 ∧ (lin lb (fI us vs xs ys) i k).natAbs ≤ 1125899906842624 := by
  have h0 := nsum_mono (f := fun j => (us j).natAbs + (vs j).natAbs) la hi
  have h1 := g1.le
  have h2 : nsum (fun j => (us j).natAbs + (vs j).natAbs) i * 33554432 ≤ 33554432 * 33554432 := Nat.mul_le_mul_right _ (by omega)
  exact ⟨Nat.le_trans (isum_bd i) (Nat.le_trans (nsum_le i fun j _ => (linT_le g1 g2 k j).1) h2), Nat.le_trans (isum_bd i) (Nat.le_trans (nsum_le i fun j _ => (linT_le g1 g2 k j).2) h2)⟩
theorem prod_bd (g1 : GB us vs la) (g2 : GB xs ys lb) {i j : Nat} (hi : i < la) (hj : j < lb) : (fR us vs xs ys i j).natAbs ≤ 1125899906842624 ∧ (fI us vs xs ys i j).natAbs ≤ 1125899906842624 := by
  have h := g_bd (us i) (vs i) (xs j) (ys j)
  have h2 : ((us i).natAbs + (vs i).natAbs) * ((xs j).natAbs + (ys j).natAbs) ≤ 33554432 * 33554432 := Nat.mul_le_mul (g1.el hi) (g2.el hj)
  exact ⟨Nat.le_trans h.1 h2, Nat.le_trans h.2 h2⟩
theorem mulI_bd {a b : Int} (ha : a.natAbs ≤ 33554432) (hb : b.natAbs ≤ 33554432) : (a * b).natAbs ≤ 1125899906842624 := by
  rw [Int.natAbs_mul]; exact Nat.mul_le_mul ha hb
theorem linS_bd (g1 : GB us vs la) (g2 : GB xs ys lb) {i j k : Nat} (hi : i < la) (hj : j ≤ lb) : (linS lb (fR us vs xs ys) i j k).natAbs ≤ 2251799813685248 ∧ (linS lb (fI us vs xs ys) i j k).natAbs ≤ 2251799813685248 := by
  have h := lin_bd g1 g2 k (Nat.le_of_lt hi)
  unfold linS
  by_cases c : i ≤ k ∧ k - i < j
  · rw [if_pos c, if_pos c]
    have h2 := prod_bd g1 g2 hi (show k - i < lb by omega)
    omega
  · rw [if_neg c, if_neg c]; omega
theorem lin_set1 {N i j : Nat} {F : Nat → Nat → Int} {G : Nat → Int} {x : Int} (h : i + j < N) (hx : x = F i j) :
    (rowG N (fun k => (linS lb F i j k, G k))).set (i + j) (((rowG N (fun k => (linS lb F i j k, G k))).getD (i + j) (0, 0)).1 + x, ((rowG N (fun k => (linS lb F i j k, G k))).getD (i + j) (0, 0)).2) = rowG N (fun k => (linS lb F i (j + 1) k, G k)) := by
  rw [rowG_set h, rowG_get h, hx]
  refine rowG_congr fun k hk => ?_
  rw [linS_step]
  by_cases c : k = i + j
  · rw [if_pos c, if_pos c, c]
  · rw [if_neg c, if_neg c]
theorem lin_set2 {N i j : Nat} {F : Nat → Nat → Int} {G : Nat → Int} {x : Int} (h : i + j < N) (hx : x = F i j) :
    (rowG N (fun k => (G k, linS lb F i j k))).set (i + j) (((rowG N (fun k => (G k, linS lb F i j k))).getD (i + j) (0, 0)).1, ((rowG N (fun k => (G k, linS lb F i j k))).getD (i + j) (0, 0)).2 + x) = rowG N (fun k => (G k, linS lb F i (j + 1) k)) := by
  rw [rowG_set h, rowG_get h, hx]
  refine rowG_congr fun k hk => ?_
  rw [linS_step]
  by_cases c : k = i + j
  · rw [if_pos c, if_pos c, c]
  · rw [if_neg c, if_neg c]
theorem fold_set1 {n i : Nat} {L G : Nat → Int} {x : Int} (hi : i < 2 * n) (hn : 0 < n) (hx : x = L i) :
    (rowG n (fun k => (fold n L i k, G k))).set (i % n) (((rowG n (fun k => (fold n L i k, G k))).getD (i % n) (0, 0)).1 + x, ((rowG n (fun k => (fold n L i k, G k))).getD (i % n) (0, 0)).2) = rowG n (fun k => (fold n L (i + 1) k, G k)) := by
  have h := Nat.mod_lt i hn
  rw [rowG_set h, rowG_get h, hx]
  refine rowG_congr fun k hk => ?_
  rw [fold_step L hi hk]
  by_cases c : k = i % n
  · rw [if_pos c, if_pos c, c]
  · rw [if_neg c, if_neg c]
theorem fold_set2 {n i : Nat} {L G : Nat → Int} {x : Int} (hi : i < 2 * n) (hn : 0 < n) (hx : x = L i) :
    (rowG n (fun k => (G k, fold n L i k))).set (i % n) (((rowG n (fun k => (G k, fold n L i k))).getD (i % n) (0, 0)).1, ((rowG n (fun k => (G k, fold n L i k))).getD (i % n) (0, 0)).2 + x) = rowG n (fun k => (G k, fold n L (i + 1) k)) := by
  have h := Nat.mod_lt i hn
  rw [rowG_set h, rowG_get h, hx]
  refine rowG_congr fun k hk => ?_
  rw [fold_step L hi hk]
  by_cases c : k = i % n
  · rw [if_pos c, if_pos c, c]
  · rw [if_neg c, if_neg c]
theorem fold_bd {n i k : Nat} {L : Nat → Int} (h : ∀ k, (L k).natAbs ≤ 1125899906842624) : (fold n L i k).natAbs ≤ 2251799813685248 := by
  have h1 := h k; have h2 := h (k + n)
  unfold fold
  split <;> split <;> omega
end
abbrev u12 : Nat → Int := fun j => if j = 0 then 1 else if j = 1 then 2 else 0
abbrev u34 : Nat → Int := fun j => if j = 0 then 3 else if j = 1 then 4 else 0
abbrev L12 : List CB := [(4607182418800017408, 0), (4611686018427387904, 0)]
abbrev L34 : List CB := [(4613937818241073152, 0), (4616189618054758400, 0)]
abbrev L1110 : List CB := [(4622382067542392832, 0), (4621819117588971520, 0)]
abbrev L3108 : List CB := [(4613937818241073152, 0), (4621819117588971520, 0), (4620693217682128896, 0)]
theorem h12 : WhU 2 u12 no0 2 L12 := ⟨rfl, fun k hk => by
  match k, hk with
  | 0, _ => exact ⟨⟨false, by kernel_rfl, by decide⟩, ⟨false, by kernel_rfl, by decide⟩⟩
  | 1, _ => exact ⟨⟨false, by kernel_rfl, by decide⟩, ⟨false, by kernel_rfl, by decide⟩⟩⟩
theorem h34 : WhU 2 u34 no0 2 L34 := ⟨rfl, fun k hk => by
  match k, hk with
  | 0, _ => exact ⟨⟨false, by kernel_rfl, by decide⟩, ⟨false, by kernel_rfl, by decide⟩⟩
  | 1, _ => exact ⟨⟨false, by kernel_rfl, by decide⟩, ⟨false, by kernel_rfl, by decide⟩⟩⟩
theorem h1110 : WhU 2 (fun k => isum (cyR 2 u12 no0 u34 no0 k) 2) (fun k => isum (cyI 2 u12 no0 u34 no0 k) 2) 2 L1110 := ⟨rfl, fun k hk => by
  match k, hk with
  | 0, _ => exact ⟨⟨false, by kernel_rfl, by decide⟩, ⟨false, by kernel_rfl, by decide⟩⟩
  | 1, _ => exact ⟨⟨false, by kernel_rfl, by decide⟩, ⟨false, by kernel_rfl, by decide⟩⟩⟩
theorem h3108 : WhU 3 (cyc 4 (fR u12 no0 u34 no0)) (cyc 4 (fI u12 no0 u34 no0)) 3 L3108 := ⟨rfl, fun k hk => by
  match k, hk with
  | 0, _ => exact ⟨⟨false, by kernel_rfl, by decide⟩, ⟨false, by kernel_rfl, by decide⟩⟩
  | 1, _ => exact ⟨⟨false, by kernel_rfl, by decide⟩, ⟨false, by kernel_rfl, by decide⟩⟩
  | 2, _ => exact ⟨⟨false, by kernel_rfl, by decide⟩, ⟨false, by kernel_rfl, by decide⟩⟩⟩
theorem sm1110 (j : Nat) (hj : j < 2) : Sm (isum (cyR 2 u12 no0 u34 no0 j) 2) ∧ Sm (isum (cyI 2 u12 no0 u34 no0 j) 2) := by
  match j, hj with
  | 0, _ => unfold Sm; decide
  | 1, _ => unfold Sm; decide
theorem sm3108 (j : Nat) (hj : j < 3) : Sm (cyc 4 (fR u12 no0 u34 no0) j) ∧ Sm (cyc 4 (fI u12 no0 u34 no0) j) := by
  match j, hj with
  | 0, _ => unfold Sm; decide
  | 1, _ => unfold Sm; decide
  | 2, _ => unfold Sm; decide
theorem b12 : B17 u12 no0 := fun j => by unfold u12 no0; split <;> (try split) <;> omega
theorem b34 : B17 u34 no0 := fun j => by unfold u34 no0; split <;> (try split) <;> omega
theorem o12 (j : Nat) (h : 2 ≤ j) : u12 j = 0 ∧ no0 j = 0 := ⟨by unfold u12; rw [if_neg (by omega), if_neg (by omega)], rfl⟩
theorem o34 (j : Nat) (h : 2 ≤ j) : u34 j = 0 ∧ no0 j = 0 := ⟨by unfold u34; rw [if_neg (by omega), if_neg (by omega)], rfl⟩
set_option maxRecDepth 100000 in
theorem inf53w64 : Inf Tryz.prog 53 (.complex .f64 0 0) 1 16 := ⟨Tryz.t53, Tryz.type53, rfl, rfl, rfl⟩
set_option maxRecDepth 100000 in
theorem inf64w64 : Inf Tryz.prog 64 (.agg #[.int .i64 0, .int .i64 0]) 2 16 := ⟨Tryz.t64, Tryz.type64, rfl, rfl, rfl⟩
theorem bld64_0_1w64 {v0 v1 : Value} (h : [v0, v1].all Value.oneCell' = true) (w : World) : (Instr.build 64 ([(0, v0), (1, v1)] : List (Nat × Value)).toArray).run Tryz.prog w = .ok (.agg #[v0, v1]) w := by
  simp only [List.all_cons, Bool.and_eq_true, List.all_nil, and_true] at h
  have hv0 := oneCell_cells (v := v0) (by simp_all)
  have hv1 := oneCell_cells (v := v1) (by simp_all)
  have h1 := fill_set (fun i => ([(0, 1), (1, 1)] : List (Nat × Nat))[i]?) [(0, v0), (1, v1)] [.int .i64 0, .int .i64 0] (by simp [okF, agg_cells, hv0, hv1, Nat.beq, Nat.ble])
  simp [setF, agg_cells, hv0, hv1] at h1
  simp [Instr.build, Tryz.runUnderlying64, Tryz.zeroValue64, Tryz.sizeOf3, agg_cells, h1]
set_option maxHeartbeats 2000000 in
set_option maxRecDepth 100000 in
theorem ring_Fast (SX SY : Nat → Prop) (X Y : Option Addr) (la lb xc yc : Nat) (us vs us2 vs2 : Nat → Int) (zs ys : List CB) (w : World) (sx : SlR SX w X la 1 (zs.map cxV)) (sy : SlR SY w Y lb 1 (ys.map cxV)) (hX : ∀ q, SX q → q < w.heap.size) (hY : ∀ q, SY q → q < w.heap.size) (hl : 1 ≤ la ∧ 1 ≤ lb ∧ la + lb ≤ 5) (hz : WhU la us vs la zs) (hy : WhU lb us2 vs2 lb ys) (h1 : B17 us vs) (h2 : B17 us2 vs2) (o1 : ∀ j, la ≤ j → us j = 0 ∧ vs j = 0) (o2 : ∀ j, lb ≤ j → us2 j = 0 ∧ vs2 j = 0) (st : StT w) (tab : TabB w.heap.size w) (hG : 12 ≤ w.heap.size) :
    Calls Tryz.prog 58 #[.slice X la xc, .slice Y lb yc] w (Ret (fun v w' => ∃ n r A os, v = .tuple #[.slice A (la + lb - 1) (la + lb - 1), .nilIface] ∧ N3 n ∧ la + lb ≤ n + 1 ∧ SlR (At r) w' A (la + lb - 1) 1 ((os.take (la + lb - 1)).map cxV) ∧ WhU n (cyc n (fR us vs us2 vs2)) (cyc n (fI us vs us2 vs2)) n os ∧ w.heap.size < r ∧ r ≤ w'.heap.size ∧ Ch No w w')) := by
  refine calls_of_VC (args := [.slice X la xc, .slice Y lb yc]) Tryz.func58 rfl Tryz.ntmps58 rfl (VC.seq (VC.region (VO.mv (Rn.assign rfl) rfl rfl rfl (VO.mv (Rn.assign rfl) rfl rfl rfl (VO.nil (VQ.then_code (VC.seq ?_)))))))
  refine VC.region (VO.mv (Rn.move rfl) rfl rfl rfl (VO.mv (Rn.len Tryz.underlying39 rfl) rfl rfl rfl (VO.mv (Rn.move rfl) rfl rfl rfl (VO.mv (Rn.len Tryz.underlying39 rfl) rfl rfl rfl (VO.wk (Wk.call Tryz.call80 rfl (ring_Size la lb _ (by omega))) rfl rfl rfl ?_)))))
  rintro _ _ ⟨⟨n, rfl, hn3, hsz⟩, rfl⟩
  have hn4 : 1 ≤ n ∧ n ≤ 4 := by have := hn3.h; omega
  refine VO.mv (Rn.move rfl) rfl rfl rfl (VO.mv (Rn.extract rfl rfl) rfl rfl rfl (VO.mv (Rn.extract rfl rfl) rfl rfl rfl (VO.mv (Rn.assign rfl) rfl rfl rfl (VO.mv (Rn.assign rfl) rfl rfl rfl (VO.nil (VQ.then_code (VC.seq ?_)))))))
  refine VC.seq (VC.region (VO.mv (Rn.move rfl) rfl rfl rfl (VO.mv (Rn.nil_neq_nil Tryz.underlying29 rfl) rfl rfl rfl (VO.nil (VQ.then_code (VC.cond_false rfl (VC.skip ?_)))))))
  refine VQ.then_code (VC.seq (VC.region (VO.mv (Rn.move rfl) rfl rfl rfl (VO.wk (Wk.call Tryz.call69 rfl (plan_NewL n hn3.h _ st ((tab).up (by omega)) (by omega))) rfl rfl rfl ?_))))
  rintro _ w1 ⟨pp, PP, rfl, pl1, hL, c1⟩
  have z1 := c1.size
  refine VO.mv (Rn.move rfl) rfl rfl rfl (VO.mv (Rn.extract rfl rfl) rfl rfl rfl (VO.mv (Rn.extract rfl rfl) rfl rfl rfl (VO.mv (Rn.assign rfl) rfl rfl rfl (VO.mv (Rn.assign rfl) rfl rfl rfl (VO.nil (VQ.then_code (VC.seq ?_)))))))
  refine VC.seq (VC.region (VO.mv (Rn.move rfl) rfl rfl rfl (VO.mv (Rn.nil_neq_nil Tryz.underlying29 rfl) rfl rfl rfl (VO.nil (VQ.then_code (VC.cond_false rfl (VC.skip ?_)))))))
  refine VQ.then_code (VC.seq (VC.region (VO.mv (Rn.move rfl) rfl rfl rfl (VO.mv (Rn.move rfl) rfl rfl rfl (VO.mv (Rn.move rfl) rfl rfl rfl ?_)))))
  have sx_1 := sx.keep c1
  refine VO.wk (Wk.call Tryz.call82 rfl (ring_padded _ _ la n _ _ _ sx_1 (fun q hq => by have := hX q hq; omega) (by omega))) rfl rfl rfl ?_
  rintro _ w2 ⟨q2, rfl, pd2, e2, c2⟩
  have yp2 := Ow.lt pd2
  have z2 := c2.size
  refine VO.mv (Rn.move rfl) rfl rfl rfl (VO.mv (Rn.move rfl) rfl rfl rfl ?_)
  have sy_2 := sy.keep (c1.trans c2)
  refine VO.wk (Wk.call Tryz.call82 rfl (ring_padded _ _ lb n _ _ _ sy_2 (fun q hq => by have := hY q hq; omega) (by omega))) rfl rfl rfl ?_
  rintro _ w3 ⟨q3, rfl, pd3, e3, c3⟩
  have yp3 := Ow.lt pd3
  have z3 := c3.size
  have pd2_3 := pd2.keep c3
  have pl_3 := pl1.keep (c2.trans c3)
  have st_3 := st.keep (c1.trans (c2.trans c3))
  refine VO.wk (Wk.call Tryz.call81 rfl (ring_By _ _ _ _ _ _ _ _ n _ _ us vs us2 vs2 _ _ _ (pd2_3).sl (pd3).sl (fun q hq => by omega) (fun q hq => by omega) pl_3 (by omega) hL (hz.pad (by omega) o1) (hy.pad (by omega) o2) h1 h2 st_3 (by omega))) rfl rfl rfl ?_
  rintro _ w4 ⟨r4, A4, k4, os4, rfl, tr4, ht4, yr4, c4⟩
  have yt4 := Ow.lt tr4
  have z4 := c4.size
  have hcp := Ow.cap tr4 (by omega)
  refine VO.mv (Rn.move rfl) rfl rfl rfl (VO.mv (Rn.extract rfl rfl) rfl rfl rfl (VO.mv (Rn.extract rfl rfl) rfl rfl rfl (VO.mv (Rn.assign rfl) rfl rfl rfl (VO.mv (Rn.assign rfl) rfl rfl rfl (VO.nil (VQ.then_code (VC.seq ?_)))))))
  refine VC.seq (VC.region (VO.mv (Rn.move rfl) rfl rfl rfl (VO.mv (Rn.nil_neq_nil Tryz.underlying29 rfl) rfl rfl rfl (VO.nil (VQ.then_code (VC.cond_false rfl (VC.skip ?_)))))))
  refine VQ.then_code (VC.seq (VC.region (VO.mv (Rn.move rfl) rfl rfl rfl (VO.mv (Rn.move rfl) rfl rfl rfl (VO.mv (Rn.len Tryz.underlying39 rfl) rfl rfl rfl (VO.mv (Rn.move rfl) rfl rfl rfl (VO.mv (Rn.len Tryz.underlying39 rfl) rfl rfl rfl ?_)))))))
  refine VO.mv (Rn.add rfl rfl (by rw [IntKind.wrap_i64]; omega)) rfl rfl rfl ?_
  refine VO.mv (Rn.sub rfl rfl (by rw [IntKind.wrap_i64]; omega)) rfl rfl rfl ?_
  refine VO.mv (Rn.move rfl) rfl rfl rfl (VO.mv (Rn.len Tryz.underlying39 rfl) rfl rfl rfl (VO.mv (Rn.move rfl) rfl rfl rfl (VO.mv (Rn.len Tryz.underlying39 rfl) rfl rfl rfl ?_)))
  refine VO.mv (Rn.add rfl rfl (by rw [IntKind.wrap_i64]; omega)) rfl rfl rfl ?_
  refine VO.mv (Rn.sub rfl rfl (by rw [IntKind.wrap_i64]; omega)) rfl rfl rfl ?_
  refine VO.mv (Rn.sliceHM Tryz.underlying39 Tryz.sizeOf53 rfl rfl rfl (by omega) (by omega) (by omega)) rfl rfl rfl (VO.mv (Rn.assign rfl) rfl rfl rfl (VO.mv (Rn.assign rfl) rfl rfl rfl (VO.nil (VQ.then_code (VC.ret (VQ.ret2 rfl rfl rfl (Ret.mk ?_)))))))
  have e9 : ((la : Int) + (lb : Int) - 1).toNat = la + lb - 1 := by omega
  have CH_4 := (Ch.refl (No) w).and (c1.trans (c2.trans (c3.trans c4)))
  exact ⟨n, _, _, os4, congrArg (fun m => Value.tuple #[.slice A4 m m, .nilIface]) e9, hn3, hsz, (tr4).sl.hiC (by omega), ht4, by omega, by omega, CH_4⟩
set_option maxHeartbeats 1000000 in
set_option maxRecDepth 100000 in
theorem law25_lives (w : World) (st : StT w) (tab : TabB w.heap.size w) (hG : 12 ≤ w.heap.size) :
    Calls Tryz.prog 27 #[] w (Ret (fun v w' => v = .bool true ∧ Ch No w w')) := by
  refine calls_of_VC (args := []) Tryz.func27 rfl Tryz.ntmps27 rfl (VC.seq (VC.region (VO.mv (Rn.assign rfl) rfl rfl rfl (VO.nil (VQ.then_code (VC.seq (VC.region ?_)))))))
  refine VO.wk (Wk.lit Tryz.underlying39 inf53w64 (by decide) rfl rfl (by rfl) (by decide) (by decide) (by rfl)) rfl rfl rfl ?_
  rintro _ w1 ⟨p1, rfl, N1⟩
  have c1 := N1.ch
  have e1 := N1.p; have z1 := N1.size
  have l6 := SlR.of_new (sz := 1) (l := 2) N1 rfl
  have l6o := Ow.of_new (sz := 1) (l := 2) N1 rfl (by decide)
  refine VO.wk (Wk.lit Tryz.underlying39 inf53w64 (by decide) rfl rfl (by rfl) (by decide) (by decide) (by rfl)) rfl rfl rfl ?_
  rintro _ w2 ⟨p2, rfl, N2⟩
  have c2 := N2.ch
  have e2 := N2.p; have z2 := N2.size
  have l7 := SlR.of_new (sz := 1) (l := 2) N2 rfl
  have l7o := Ow.of_new (sz := 1) (l := 2) N2 rfl (by decide)
  have l6_2 := l6.keep c2
  refine VO.wk (Wk.call Tryz.call32 rfl (ring_Cyclic _ _ _ _ 2 _ _ u12 no0 u34 no0 L12 L34 _ l6_2 l7 (fun q hq => by omega) (fun q hq => by omega) ⟨by decide, by decide⟩ h12 h34 ⟨by decide⟩ ⟨by decide⟩)) rfl rfl rfl ?_
  rintro _ w3 ⟨q3, os3, rfl, cy3, ho3, e3, c3⟩
  have yc3 := Ow.lt cy3
  have z3 := c3.size
  refine VO.mv (Rn.move rfl) rfl rfl rfl (VO.mv (Rn.extract rfl rfl) rfl rfl rfl (VO.mv (Rn.extract rfl rfl) rfl rfl rfl (VO.mv (Rn.assign rfl) rfl rfl rfl (VO.mv (Rn.assign rfl) rfl rfl rfl (VO.nil (VQ.then_code (VC.seq ?_)))))))
  refine VC.region (VO.wk (Wk.lit Tryz.underlying39 inf53w64 (by decide) rfl rfl (by rfl) (by decide) (by decide) (by rfl)) rfl rfl rfl ?_)
  rintro _ w4 ⟨p4, rfl, N4⟩
  have c4 := N4.ch
  have e4 := N4.p; have z4 := N4.size
  have l12 := SlR.of_new (sz := 1) (l := 2) N4 rfl
  have l12o := Ow.of_new (sz := 1) (l := 2) N4 rfl (by decide)
  refine VO.wk (Wk.lit Tryz.underlying39 inf53w64 (by decide) rfl rfl (by rfl) (by decide) (by decide) (by rfl)) rfl rfl rfl ?_
  rintro _ w5 ⟨p5, rfl, N5⟩
  have c5 := N5.ch
  have e5 := N5.p; have z5 := N5.size
  have l13 := SlR.of_new (sz := 1) (l := 2) N5 rfl
  have l13o := Ow.of_new (sz := 1) (l := 2) N5 rfl (by decide)
  have l12_5 := l12.keep c5
  have st_5 := st.keep (c1.trans (c2.trans (c3.trans (c4.trans c5))))
  have tab_5 := tab.keep (c1.trans (c2.trans (c3.trans (c4.trans c5))))
  refine VO.wk (Wk.call Tryz.call58 rfl (ring_Fast _ _ _ _ 2 2 _ _ u12 no0 u34 no0 L12 L34 _ l12_5 l13 (fun q hq => by omega) (fun q hq => by omega) ⟨by decide, by decide, by decide⟩ h12 h34 b12 b34 o12 o34 st_5 ((tab_5).up (by omega)) (by omega))) rfl rfl rfl ?_
  rintro _ w6 ⟨n, r6, A6, os6, rfl, hn3, hsz, fs6, ht6, yr6, yf6, c6⟩
  have z6 := c6.size
  obtain rfl : n = 4 := by have := hn3.h; omega
  refine VO.mv (Rn.move rfl) rfl rfl rfl (VO.mv (Rn.extract rfl rfl) rfl rfl rfl (VO.mv (Rn.extract rfl rfl) rfl rfl rfl (VO.mv (Rn.assign rfl) rfl rfl rfl (VO.mv (Rn.assign rfl) rfl rfl rfl (VO.nil (VQ.then_code (VC.seq ?_)))))))
  refine VC.region (VO.mv (Rn.move rfl) rfl rfl rfl (VO.mv (Rn.nil_eql_nil Tryz.underlying29 rfl) rfl rfl rfl (VO.mv (Rn.move rfl) rfl rfl rfl (VO.mv (Rn.move rfl) rfl rfl rfl (VO.mv (Rn.nil_eql_nil Tryz.underlying29 rfl) rfl rfl rfl (VO.mv (Rn.pick_true rfl rfl) rfl rfl rfl (VO.mv (Rn.move rfl) rfl rfl rfl ?_)))))))
  refine VO.mv (Rn.move rfl) rfl rfl rfl (VO.wk (Wk.lit Tryz.underlying39 inf53w64 (by decide) rfl rfl (by rfl) (by decide) (by decide) (by rfl)) rfl rfl rfl ?_)
  rintro _ w7 ⟨p7, rfl, N7⟩
  have c7 := N7.ch
  have e7 := N7.p; have z7 := N7.size
  have l25 := SlR.of_new (sz := 1) (l := 2) N7 rfl
  have l25o := Ow.of_new (sz := 1) (l := 2) N7 rfl (by decide)
  have cy3_7 := cy3.keep (c4.trans (c5.trans (c6.trans c7)))
  refine VO.wk (Wk.call Tryz.call19 rfl (hand_Equal _ _ _ _ 2 2 _ _ _ L1110 _ (cy3_7).sl l25 rfl (by omega) (WhU.eqs ho3 h1110 sm1110))) rfl rfl rfl ?_
  rintro _ w8 ⟨rfl, c8⟩
  have z8 := c8.size
  refine VO.mv (Rn.pick_true rfl rfl) rfl rfl rfl (VO.mv (Rn.move rfl) rfl rfl rfl (VO.mv (Rn.move rfl) rfl rfl rfl (VO.wk (Wk.lit Tryz.underlying39 inf53w64 (by decide) rfl rfl (by rfl) (by decide) (by decide) (by rfl)) rfl rfl rfl ?_)))
  rintro _ w9 ⟨p9, rfl, N9⟩
  have c9 := N9.ch
  have e9 := N9.p; have z9 := N9.size
  have l30 := SlR.of_new (sz := 1) (l := 3) N9 rfl
  have l30o := Ow.of_new (sz := 1) (l := 3) N9 rfl (by decide)
  have fs_9 := fs6.keep (c7.trans (c8.trans c9))
  refine VO.wk (Wk.call Tryz.call19 rfl (hand_Equal _ _ _ _ 3 3 _ _ (os6.take 3) L3108 _ fs_9 l30 rfl (by omega) (fun j hj => by rw [take_getDC hj]; exact ceq_true (ht6.get j (by omega)) (h3108.get j hj) (sm3108 j hj).1 (sm3108 j hj).2))) rfl rfl rfl ?_
  rintro _ w10 ⟨rfl, c10⟩
  have z10 := c10.size
  refine VO.mv (Rn.pick_true rfl rfl) rfl rfl rfl (VO.mv (Rn.assign rfl) rfl rfl rfl (VO.nil (VQ.then_code (VC.ret (VQ.ret1 rfl rfl (Ret.mk ?_))))))
  have CH_10 := (Ch.refl (No) w).and (c1.trans (c2.trans (c3.trans (c4.trans (c5.trans (c6.trans (c7.trans (c8.trans (c9.trans c10)))))))))
  exact ⟨rfl, CH_10⟩
set_option maxHeartbeats 2000000 in
set_option maxRecDepth 100000 in
theorem law25_whole (SX : Nat → Prop) (X : Option Addr) (m xc : Nat) (ls : List Int) (w : World) (sx : SlR SX w X m 1 (ls.map IV)) (hX : ∀ q, SX q → q < w.heap.size) (hm : m ≤ 200) :
    Calls Tryz.prog 28 #[.slice X m xc, .int .i64 262144] w (Ret (fun v w' => ∃ ra Aa ca rb Ab cb, v = .tuple #[.slice Aa (m / 2) ca, .slice Ab (m / 2) cb, .int .i64 (nsum (l1 ls) (m / 2) : Nat)] ∧ GR 64 w' ra Aa (m / 2) ca (gsM ls (m / 2)) ∧ CR 53 w' rb Ab (m / 2) cb (csM ls (m / 2)) ∧ w.heap.size < ra ∧ w.heap.size < rb ∧ Ch No w w')) := by
  refine calls_of_VC (args := [.slice X m xc, .int .i64 262144]) Tryz.func28 rfl Tryz.ntmps28 rfl (VC.seq (VC.region (VO.mv (Rn.assign rfl) rfl rfl rfl (VO.mv (Rn.assign rfl) rfl rfl rfl (VO.mv (Rn.assign rfl) rfl rfl rfl (VO.nil (VQ.then_code ?_)))))))
  refine VC.seq (VC.region (VO.wk (Wk.lit0 Tryz.underlying57 inf64w64) rfl rfl rfl ?_))
  rintro _ w1 ⟨p1, rfl, N1⟩
  have c1 := N1.ch
  have e1 := N1.p; have z1 := N1.size
  have l12o := Ow.of_new (cs := []) (sz := 2) (l := 0) N1 rfl (by decide)
  refine VO.wk (Wk.lit0 Tryz.underlying39 inf53w64) rfl rfl rfl ?_
  rintro _ w2 ⟨p2, rfl, N2⟩
  have c2 := N2.ch
  have e2 := N2.p; have z2 := N2.size
  have l13o := Ow.of_new (cs := []) (sz := 1) (l := 0) N2 rfl (by decide)
  refine VO.mv (Rn.assign rfl) rfl rfl rfl (VO.mv (Rn.assign rfl) rfl rfl rfl (VO.nil (VQ.then_code (VC.seq (VC.region (VO.mv (Rn.assign rfl) rfl rfl rfl (VO.nil ?_)))))))
  refine VQ.then_code (VC.seq (VC.seq (VC.region (VO.mv (Rn.assign rfl) rfl rfl rfl (VO.nil (VQ.then_code (VC.block ?_)))))))
  have l12o_2 := l12o.keep c2
  have sx_2 := sx.keep (c1.trans c2)
  have CH_2 := (Ch.refl (No) w).and (c1.trans c2)
  refine VC.loopS (σ := Nat × Int × Int × Nat × Option Addr × Nat × Nat × Option Addr × Nat) (fun (j, i, S, r1, A1, c1, r2, A2, c2) => [(0, .slice X m xc), (1, .int .i64 262144), (7, .slice A1 j c1), (8, .slice A2 j c2), (9, .int .i64 S), (10, .int .i64 i)]) (fun (j, i, S, r1, A1, c1, r2, A2, c2) w' => i = 2 * (j : Int) ∧ 2 * j ≤ m ∧ S = (nsum (l1 ls) j : Nat) ∧ (0 ≤ S ∧ S ≤ (j : Int) * 524288) ∧ w.heap.size < r1 ∧ w.heap.size < r2 ∧ ¬ r1 = r2 ∧ w2.heap.size ≤ w'.heap.size ∧ Ow w' r1 64 2 A1 j c1 (gVs (gsM ls j)) ∧ Ow w' r2 53 1 A2 j c2 ((csM ls j).map cxV) ∧ SlR SX w' X m 1 (ls.map IV) ∧ Ch (No) w w') (fun (j, i, S, r1, A1, c1, r2, A2, c2) => m - 2 * j) (0, 0, 0, (p1 + 1), (some ⟨p1, 0, none⟩), 0, (p2 + 1), (some ⟨p2, 0, none⟩), 0) ?_ ⟨rfl, rfl, rfl, rfl, rfl, rfl, trivial⟩ ?_
  · exact ⟨rfl, (by omega), rfl, ⟨by omega, by omega⟩, (by omega), (by omega), (by omega), (Nat.le_refl _), l12o_2, l13o, sx_2, CH_2⟩
  rintro ⟨j, i, S, r1, A1, c1, r2, A2, c2⟩ w3 ⟨hi, hj, hS, hS2, hr1, hr2, hr3, hsz3, ra_3, rb_3, sx_3, CH_3⟩
  show VC _ _ _ _ [(0, .slice X m xc), (1, .int .i64 262144), (7, .slice A1 j c1), (8, .slice A2 j c2), (9, .int .i64 S), (10, .int .i64 i)] _
  have ha := tm18 (ls.getD i.toNat 0)
  have hb := tm18 (ls.getD (i + 1).toNat 0)
  have yra9 := Ow.lt ra_3; have yrb9 := Ow.lt rb_3
  have et1 : i.toNat = 2 * j := by omega
  have et2 : (i + 1).toNat = 2 * j + 1 := by omega
  refine VC.seq (VC.seq (VC.region (VO.mv (Rn.move rfl) rfl rfl rfl ?_)))
  refine VO.mv (Rn.add rfl rfl (by rw [IntKind.wrap_i64]; omega)) rfl rfl rfl ?_
  refine VO.mv (Rn.move rfl) rfl rfl rfl (VO.mv (Rn.len Tryz.underlying36 rfl) rfl rfl rfl (VO.mv (Rn.lss rfl rfl) rfl rfl rfl (VO.nil (VQ.then_code (VC.cond_if rfl (fun hc1 => ?_) (fun hc1 => ?_))))))
  · skip
    refine VC.skip (VQ.then_code (VC.seq (VC.block (VC.seq (VC.draws 15 [(0, true), (1, true), (2, true), (3, true), (4, true), (5, true), (6, true), (7, true), (8, true), (9, true), (10, true), (11, true), (12, true), (13, true), (14, false)] (fun w1 w' => Ch (No) w1 w') mixed (by kernel_rfl) (fun _ _ => Ch.refl _ _) ?_)))))
    intro w4 D4
    have c4 := Ch.of_drew D4; have z4 := c4.size
    have sx_4 := sx_3.keep c4
    have ra_4 := ra_3.keep c4
    have rb_4 := rb_3.keep c4
    refine VH.mv (fun w' hS => Rn.move rfl) rfl rfl rfl rfl (VH.mv (fun w' hS => Rn.move rfl) rfl rfl rfl rfl (VH.mv (fun w' hS => Rn.indexS Tryz.underlying36 Tryz.sizeOf3 rfl rfl ((sx_4.keep hS).ne (by omega)) (by omega) (by omega)) rfl rfl rfl rfl (VH.mv (fun w' hS => Rn.load Tryz.isAgg3 rfl (((sx_4).keep hS).getI (by omega) (by omega))) rfl rfl rfl rfl (VH.mv (fun w' hS => Rn.move rfl) rfl rfl rfl rfl (VH.mv (fun w' hS => Rn.rem rfl rfl (by decide)) rfl rfl rfl rfl (VH.mv (fun w' hS => Rn.move rfl) rfl rfl rfl rfl (VH.mv (fun w' hS => Rn.move rfl) rfl rfl rfl rfl ?_)))))))
    refine VH.mv (fun w' hS => Rn.add rfl rfl (by rw [IntKind.wrap_i64]; omega)) rfl rfl rfl rfl ?_
    refine VH.mv (fun w' hS => Rn.indexS Tryz.underlying36 Tryz.sizeOf3 rfl rfl ((sx_4.keep hS).ne (by omega)) (by omega) (by omega)) rfl rfl rfl rfl (VH.mv (fun w' hS => Rn.load Tryz.isAgg3 rfl (((sx_4).keep hS).getI (by omega) (by omega))) rfl rfl rfl rfl (VH.mv (fun w' hS => Rn.move rfl) rfl rfl rfl rfl (VH.mv (fun w' hS => Rn.rem rfl rfl (by decide)) rfl rfl rfl rfl (VH.mv (fun w' hS => Rn.build rfl (bld64_0_1w64 rfl)) rfl rfl rfl rfl (VH.wk (Wk.alloc Tryz.zeroValue64) rfl rfl rfl rfl ?_)))))
    rintro _ w5 ⟨p5, rfl, N5⟩
    have c5 := N5.ch
    have e5 := N5.p; have z5 := N5.size
    have b11 := Bk.new N5
    have RD_5 := (Ch.refl (No) w4).and c5
    refine ⟨RD_5, ?_⟩
    refine VH.done (VO.wk0 (Wk.puts Tryz.sizeOf64 rfl rfl rfl rfl b11 (Nat.le_of_ble_eq_true rfl)) rfl rfl ?_)
    intro _ w6 Z6
    have c6 := Z6.ch; have z6 := Z6.size
    have b11_6 := Bk.put Z6
    refine VO.nil (VQ.noPanic (VQ.then_code (VC.seq (VC.region (VO.mv (Rn.move rfl) rfl rfl rfl (VO.mv (Rn.field Tryz.underlying64 rfl Tryz.sizeOf3 rfl rfl rfl) rfl rfl rfl (VO.mv (Rn.load Tryz.isAgg3 rfl (b11_6.cell rfl)) rfl rfl rfl ?_)))))))
    refine VO.mv (Rn.field Tryz.underlying64 rfl Tryz.sizeOf3 rfl rfl rfl) rfl rfl rfl (VO.mv (Rn.load Tryz.isAgg3 rfl (b11_6.cell rfl)) rfl rfl rfl ?_)
    refine VO.mv (Rn.neg rfl (by rw [IntKind.wrap_i64]; omega)) rfl rfl rfl ?_
    refine VO.mv (Rn.maxI rfl rfl) rfl rfl rfl (VO.mv (Rn.field Tryz.underlying64 rfl Tryz.sizeOf3 rfl rfl rfl) rfl rfl rfl (VO.mv (Rn.load Tryz.isAgg3 rfl (b11_6.cell rfl)) rfl rfl rfl (VO.mv (Rn.field Tryz.underlying64 rfl Tryz.sizeOf3 rfl rfl rfl) rfl rfl rfl (VO.mv (Rn.load Tryz.isAgg3 rfl (b11_6.cell rfl)) rfl rfl rfl ?_))))
    refine VO.mv (Rn.neg rfl (by rw [IntKind.wrap_i64]; omega)) rfl rfl rfl ?_
    refine VO.mv (Rn.maxI rfl rfl) rfl rfl rfl ?_
    refine VO.mv (Rn.add rfl rfl (by rw [IntKind.wrap_i64]; omega)) rfl rfl rfl ?_
    refine VO.mv (Rn.add rfl rfl (by rw [IntKind.wrap_i64]; omega)) rfl rfl rfl ?_
    refine VO.mv (Rn.assign rfl) rfl rfl rfl (VO.nil (VQ.then_code (VC.seq (VC.region (VO.mv (Rn.move rfl) rfl rfl rfl (VO.mv (Rn.loads Tryz.isAgg64 Tryz.sizeOf64 rfl rfl (b11_6.all' rfl)) rfl rfl rfl (VO.wk (Wk.lit Tryz.underlying57 inf64w64 (by decide) rfl rfl (by rfl) (by decide) (by decide) (by rfl)) rfl rfl rfl ?_)))))))
    rintro _ w7 ⟨p7, rfl, N7⟩
    have c7 := N7.ch
    have e7 := N7.p; have z7 := N7.size
    have l52 := SlR.of_new (sz := 2) (l := 1) N7 rfl
    have l52o := Ow.of_new (sz := 2) (l := 1) N7 rfl (by decide)
    have cc_4_7 : Ch No w4 w7 := ((Ch.then (E := No) c5 c6 (by intro q h1 h2; rcases h2 with h2 | h2 <;> first | exact h2 | (exfalso; omega))).and c7)
    have ra_7 := ra_4.keep cc_4_7
    refine VO.wk (Wk.append (S := _) Tryz.underlying57 inf64w64 rfl (by decide) rfl rfl ra_7 l52 (by rfl) (fun h => by simp at h) (by omega) (by simp only [maxLen]; omega)) rfl rfl rfl ?_
    rintro _ w8 ⟨r8, A8, k8, rfl, o8, c8, q8⟩
    have z8 := c8.size
    have y8 := o8.lt
    refine VO.mv (Rn.assign rfl) rfl rfl rfl (VO.nil (VQ.then_code (VC.region (VO.mv (Rn.move rfl) rfl rfl rfl (VO.mv (Rn.field Tryz.underlying64 rfl Tryz.sizeOf3 rfl rfl rfl) rfl rfl rfl ?_)))))
    have b11_7 := b11_6.keep c7
    have b11_8 := b11_7.to c8 (by first | exact id | omega)
    refine VO.mv (Rn.load Tryz.isAgg3 rfl (b11_8.cell rfl)) rfl rfl rfl (VO.mv (Rn.conv_if Tryz.underlying3 Tryz.underlying25 rfl) rfl rfl rfl (VO.mv (Rn.field Tryz.underlying64 rfl Tryz.sizeOf3 rfl rfl rfl) rfl rfl rfl (VO.mv (Rn.load Tryz.isAgg3 rfl (b11_8.cell rfl)) rfl rfl rfl (VO.mv (Rn.conv_if Tryz.underlying3 Tryz.underlying25 rfl) rfl rfl rfl (VO.mv (Rn.complex rfl rfl) rfl rfl rfl (VO.wk (Wk.lit Tryz.underlying39 inf53w64 (by decide) rfl rfl (by rfl) (by decide) (by decide) (by rfl)) rfl rfl rfl ?_))))))
    rintro _ w9 ⟨p9, rfl, N9⟩
    have c9 := N9.ch
    have e9 := N9.p; have z9 := N9.size
    have l62 := SlR.of_new (sz := 1) (l := 1) N9 rfl
    have l62o := Ow.of_new (sz := 1) (l := 1) N9 rfl (by decide)
    have rb_7 := rb_4.keep cc_4_7
    have rb_8 := rb_7.to c8 (by first | exact fun _ _ _ _ => id | (intro q h1 h2 hx h3; omega))
    have rb_9 := rb_8.keep c9
    refine VO.wk (Wk.append (S := _) Tryz.underlying39 inf53w64 rfl (by decide) rfl rfl rb_9 l62 (by rfl) (fun h => by simp at h) (by omega) (by simp only [maxLen]; omega)) rfl rfl rfl ?_
    rintro _ w10 ⟨r10, A10, k10, rfl, o10, c10, q10⟩
    have z10 := c10.size
    have y10 := o10.lt
    refine VO.mv (Rn.assign rfl) rfl rfl rfl (VO.nil (VQ.block_normal (VQ.then_code (VC.region (VO.mv (Rn.move rfl) rfl rfl rfl ?_)))))
    refine VO.mv (Rn.add rfl rfl (by rw [IntKind.wrap_i64]; omega)) rfl rfl rfl ?_
    refine VO.mv (Rn.assign rfl) rfl rfl rfl (VO.nil ?_)
    refine VQ.round (j + 1, i + 2, _, r8, A8, k8, r10, A10, k10) (by first | omega | (dsimp only; omega)) ?_ ⟨rfl, rfl, rfl, rfl, rfl, rfl, trivial⟩
    have ra_9 := o8.keep c9
    have ra_10 := ra_9.to c10 (by first | exact fun _ _ _ _ => id | (intro q h1 h2 hx h3; omega))
    have sx_7 := sx_4.keep cc_4_7
    have sx_8 := sx_7.to c8 (by first | exact fun _ _ _ _ => id | (intro q h1 h2 hx h3; have := hX q h2; omega))
    have sx_9 := sx_8.keep c9
    have sx_10 := sx_9.to c10 (by first | exact fun _ _ _ _ => id | (intro q h1 h2 hx h3; have := hX q h2; omega))
    have cc_3_7 : Ch No w3 w7 := ((Ch.then (E := No) (c4.and c5) c6 (by intro q h1 h2; rcases h2 with h2 | h2 <;> first | exact h2 | (exfalso; omega))).and c7)
    have CH_7 := CH_3.and cc_3_7
    have CH_8 : Ch (No) w w8 := CH_7.then c8 (by intro q h1 h2; rcases h2 with h2 | h2 <;> first | exact h2 | (exfalso; omega) | omega)
    have CH_9 := CH_8.and c9
    have CH_10 : Ch (No) w w10 := CH_9.then c10 (by intro q h1 h2; rcases h2 with h2 | h2 <;> first | exact h2 | (exfalso; omega) | omega)
    exact ⟨(by omega), (by omega), (whole_step hi hS), (by rw [whole_step hi hS]; have := l1_bd ls j; show (0 : Int) ≤ ((nsum (l1 ls) j + l1 ls j : Nat) : Int) ∧ ((nsum (l1 ls) j + l1 ls j : Nat) : Int) ≤ ((j + 1 : Nat) : Int) * 524288; omega), (by omega), (by omega), (by omega), (by omega), (by rw [gsM_succ]; have h9 := ra_10; rw [et1, et2] at h9; exact h9), (by rw [csM_succ]; have h9 := o10; rw [et1, et2] at h9; exact h9), sx_10, CH_10⟩
  · skip
    refine VC.exit (VQ.then_exit (VQ.then_exit (VQ.block_exit (VQ.then_code (VC.seq (VC.region (VO.mv (Rn.move rfl) rfl rfl rfl ?_)))))))
    refine VO.mv (Rn.move rfl) rfl rfl rfl (VO.mv (Rn.move rfl) rfl rfl rfl (VO.mv (Rn.assign rfl) rfl rfl rfl (VO.mv (Rn.assign rfl) rfl rfl rfl (VO.mv (Rn.assign rfl) rfl rfl rfl (VO.nil (VQ.then_code (VC.ret ?_)))))))
    refine VQ.ret3 rfl rfl rfl rfl (Ret.mk ?_)
    obtain rfl : j = m / 2 := by omega
    exact ⟨_, _, _, _, _, _, by rw [hS], ra_3, rb_3, hr1, hr2, CH_3⟩
set_option maxHeartbeats 1000000 in
set_option maxRecDepth 100000 in
theorem law25_is (SA SB : Nat → Prop) (A B : Option Addr) (n ca cb : Nat) (zs : List CB) (gs : List Gs) (w : World) (sa : SlR SA w A n 1 (zs.map cxV)) (sb : SlR SB w B n 2 (gVs gs)) (hn : n ≤ 1000000) (hz : WhU n (re gs) (im gs) n zs) (hs : ∀ j, j < n → Sm (re gs j) ∧ Sm (im gs j)) :
    Calls Tryz.prog 30 #[.slice A n ca, .slice B n cb] w (Ret (fun v w' => v = .bool true ∧ Ch No w w')) := by
  refine calls_of_VC (args := [.slice A n ca, .slice B n cb]) Tryz.func30 rfl Tryz.ntmps30 rfl (VC.seq (VC.region (VO.mv (Rn.assign rfl) rfl rfl rfl (VO.nil (VQ.then_code (VC.seq (VC.seq ?_)))))))
  refine VC.region (VO.mv (Rn.move rfl) rfl rfl rfl (VO.mv (Rn.len Tryz.underlying39 rfl) rfl rfl rfl (VO.mv (Rn.move rfl) rfl rfl rfl (VO.mv (Rn.len Tryz.underlying57 rfl) rfl rfl rfl (VO.mv (Rn.neq rfl rfl) rfl rfl rfl (VO.nil (VQ.then_code ?_)))))))
  refine VC.cond_if rfl (fun hc1 => ?_) (fun hc1 => ?_)
  · skip
    omega
  · skip
    refine VC.skip (VQ.then_code (VC.seq (VC.seq (VC.region (VO.mv (Rn.move rfl) rfl rfl rfl (VO.mv (Rn.len Tryz.underlying39 rfl) rfl rfl rfl (VO.mv (Rn.move rfl) rfl rfl rfl ?_)))))))
    refine VO.nil (VQ.then_code (VC.block (VC.loopS (σ := Nat) (fun j => [(0, .slice A n ca), (1, .slice B n cb), (12, .int .i64 n), (13, .int .i64 j)]) (fun j w' => j ≤ n ∧ w.heap.size ≤ w'.heap.size ∧ SlR SA w' A n 1 (zs.map cxV) ∧ SlR SB w' B n 2 (gVs gs) ∧ Ch (No) w w') (fun j => n - j) 0 ?_ ⟨rfl, rfl, rfl, rfl, trivial⟩ ?_)))
    · exact ⟨(by omega), (Nat.le_refl _), sa, sb, (Ch.refl (No) w)⟩
    rintro j w1 ⟨hj, hsz1, sa_1, sb_1, CH_1⟩
    show VC _ _ _ _ [(0, .slice A n ca), (1, .slice B n cb), (12, .int .i64 n), (13, .int .i64 j)] _
    refine VC.seq (VC.region (VO.mv (Rn.lss rfl rfl) rfl rfl rfl (VO.nil (VQ.then_code (VC.seq (VC.cond_if rfl (fun hc2 => ?_) (fun hc2 => ?_)))))))
    · skip
      refine VC.skip (VQ.then_code (VC.seq (VC.block (VC.seq (VC.region (VO.mv (Rn.move rfl) rfl rfl rfl (VO.mv (Rn.assign rfl) rfl rfl rfl ?_)))))))
      refine VO.nil (VQ.then_code (VC.seq (VC.draws 26 [(0, true), (1, true), (2, true), (3, true), (4, true), (5, true), (6, true), (7, true), (8, true), (9, true), (10, true), (11, true), (12, true), (13, true), (14, true), (15, true), (16, true), (17, true), (18, true), (19, true), (20, true), (21, true), (22, true), (23, true), (24, true), (25, true)] (fun w1 w' => Ch (No) w1 w') mixed (by kernel_rfl) (fun _ _ => Ch.refl _ _) ?_)))
      intro w2 D2
      have c2 := Ch.of_drew D2; have z2 := c2.size
      have sa_2 := sa_1.keep c2
      have sb_2 := sb_1.keep c2
      refine VH.mv (fun w' hS => Rn.move rfl) rfl rfl rfl rfl (VH.mv (fun w' hS => Rn.move rfl) rfl rfl rfl rfl (VH.mv (fun w' hS => Rn.indexS Tryz.underlying39 Tryz.sizeOf53 rfl rfl ((sa_2.keep hS).ne (by omega)) (by omega) (by omega)) rfl rfl rfl rfl (VH.mv (fun w' hS => Rn.load Tryz.isAgg53 rfl ((sa_2.keep hS).getC (by omega) (by omega))) rfl rfl rfl rfl (VH.mv (fun w' hS => Rn.real rfl) rfl rfl rfl rfl (VH.mv (fun w' hS => Rn.move rfl) rfl rfl rfl rfl (VH.mv (fun w' hS => Rn.move rfl) rfl rfl rfl rfl (VH.mv (fun w' hS => Rn.indexS Tryz.underlying57 Tryz.sizeOf64 rfl rfl ((sb_2.keep hS).ne (by omega)) (by omega) (by omega)) rfl rfl rfl rfl ?_)))))))
      refine VH.mv (fun w' hS => Rn.fieldA Tryz.underlying64 rfl Tryz.sizeOf3 rfl rfl rfl) rfl rfl rfl rfl (VH.mv (fun w' hS => Rn.load Tryz.isAgg3 rfl (SlR.getG0 ((sb_2.keep hS)) (by omega) (by omega))) rfl rfl rfl rfl (VH.mv (fun w' hS => Rn.conv_if Tryz.underlying3 Tryz.underlying25 rfl) rfl rfl rfl rfl (VH.mv (fun w' hS => Rn.fneqF rfl rfl (Wh.eq_true (hz.get j (by omega)).1 (Wh.cn_int (hs j (by omega)).1) (hs j (by omega)).1)) rfl rfl rfl rfl (VH.mv (fun w' hS => Rn.move rfl) rfl rfl rfl rfl (VH.mv (fun w' hS => Rn.move rfl) rfl rfl rfl rfl (VH.mv (fun w' hS => Rn.move rfl) rfl rfl rfl rfl (VH.mv (fun w' hS => Rn.indexS Tryz.underlying39 Tryz.sizeOf53 rfl rfl ((sa_2.keep hS).ne (by omega)) (by omega) (by omega)) rfl rfl rfl rfl ?_)))))))
      refine VH.mv (fun w' hS => Rn.load Tryz.isAgg53 rfl ((sa_2.keep hS).getC (by omega) (by omega))) rfl rfl rfl rfl (VH.mv (fun w' hS => Rn.imag rfl) rfl rfl rfl rfl (VH.mv (fun w' hS => Rn.move rfl) rfl rfl rfl rfl (VH.mv (fun w' hS => Rn.move rfl) rfl rfl rfl rfl (VH.mv (fun w' hS => Rn.indexS Tryz.underlying57 Tryz.sizeOf64 rfl rfl ((sb_2.keep hS).ne (by omega)) (by omega) (by omega)) rfl rfl rfl rfl (VH.mv (fun w' hS => Rn.fieldA Tryz.underlying64 rfl Tryz.sizeOf3 rfl rfl rfl) rfl rfl rfl rfl (VH.mv (fun w' hS => Rn.load Tryz.isAgg3 rfl (SlR.getG1 ((sb_2.keep hS)) (by omega) (by omega))) rfl rfl rfl rfl (VH.mv (fun w' hS => Rn.conv_if Tryz.underlying3 Tryz.underlying25 rfl) rfl rfl rfl rfl ?_)))))))
      refine VH.mv (fun w' hS => Rn.fneqF rfl rfl (Wh.eq_true (hz.get j (by omega)).2 (Wh.cn_int (hs j (by omega)).2) (hs j (by omega)).2)) rfl rfl rfl rfl (VH.mv (fun w' hS => Rn.pick_false rfl rfl) rfl rfl rfl rfl (VH.done (VO.nil (VQ.noPanic (VQ.then_code (VC.cond_false rfl (VC.skip ?_)))))))
      refine VQ.block_normal (VQ.then_code (VC.region ?_))
      refine VO.mv (Rn.add rfl rfl (by rw [IntKind.wrap_i64]; omega)) rfl rfl rfl ?_
      refine VO.mv (Rn.move rfl) rfl rfl rfl (VO.nil ?_)
      refine VQ.round (j + 1) (by first | omega | (dsimp only; omega)) ?_ ⟨rfl, rfl, rfl, rfl, trivial⟩
      have CH_2 := CH_1.and c2
      exact ⟨(by omega), (by omega), sa_2, sb_2, CH_2⟩
    · skip
      refine VC.exit (VQ.then_exit (VQ.then_exit (VQ.block_exit (VQ.then_code (VC.seq (VC.region (VO.mv (Rn.assign rfl) rfl rfl rfl ?_)))))))
      refine VO.nil (VQ.then_code (VC.ret (VQ.ret1 rfl rfl (Ret.mk ?_))))
      exact ⟨rfl, CH_1⟩
set_option maxHeartbeats 4000000 in
set_option maxRecDepth 100000 in
theorem law25_linear (SA SB : Nat → Prop) (A B : Option Addr) (la lb ca cb : Nat) (gs hs : List Gs) (w : World) (sa : SlR SA w A la 2 (gVs gs)) (sb : SlR SB w B lb 2 (gVs hs)) (hA : ∀ q, SA q → q < w.heap.size) (hB : ∀ q, SB q → q < w.heap.size) (hl : 1 ≤ la ∧ 1 ≤ lb ∧ la ≤ 1024 ∧ lb ≤ 1024) (g1 : GB (re gs) (im gs) la) (g2 : GB (re hs) (im hs) lb) :
    Calls Tryz.prog 31 #[.slice A la ca, .slice B lb cb] w (Ret (fun v w' => ∃ q, v = .slice (some ⟨q, 0, none⟩) (la + lb - 1) (la + lb - 1) ∧ GR 64 w' (q + 1) (some ⟨q, 0, none⟩) (la + lb - 1) (la + lb - 1) (rowG (la + lb - 1) (fun k => (lin lb (fR (re gs) (im gs) (re hs) (im hs)) la k, lin lb (fI (re gs) (im gs) (re hs) (im hs)) la k))) ∧ w.heap.size ≤ q ∧ Ch No w w')) := by
  refine calls_of_VC (args := [.slice A la ca, .slice B lb cb]) Tryz.func31 rfl Tryz.ntmps31 rfl (VC.seq (VC.region (VO.mv (Rn.assign rfl) rfl rfl rfl (VO.nil (VQ.then_code (VC.seq (VC.region ?_)))))))
  refine VO.mv (Rn.move rfl) rfl rfl rfl (VO.mv (Rn.len Tryz.underlying57 rfl) rfl rfl rfl (VO.mv (Rn.move rfl) rfl rfl rfl (VO.mv (Rn.len Tryz.underlying57 rfl) rfl rfl rfl ?_)))
  refine VO.mv (Rn.add rfl rfl (by rw [IntKind.wrap_i64]; omega)) rfl rfl rfl ?_
  refine VO.mv (Rn.sub rfl rfl (by rw [IntKind.wrap_i64]; omega)) rfl rfl rfl ?_
  refine VO.wk (Wk.mkG Tryz.underlying57 inf64w64 rfl rfl (by omega) (by omega) (by omega)) rfl rfl rfl ?_
  rintro _ w1 ⟨p1, rfl, o1, c1, e1, z1⟩
  refine VO.mv (Rn.assign rfl) rfl rfl rfl (VO.nil (VQ.then_code (VC.seq (VC.seq (VC.region (VO.mv (Rn.move rfl) rfl rfl rfl (VO.mv (Rn.len Tryz.underlying57 rfl) rfl rfl rfl ?_)))))))
  refine VO.mv (Rn.move rfl) rfl rfl rfl (VO.nil (VQ.then_code (VC.block ?_)))
  have sa_1 := sa.keep c1
  have sb_1 := sb.keep c1
  have CH_1 := (Ch.refl (No) w).and c1
  refine VC.loopS (σ := Nat) (fun i => [(1, .slice B lb cb), (5, .slice (some ⟨p1, 0, none⟩) ((la : Int) + (lb : Int) - 1).toNat ((la : Int) + (lb : Int) - 1).toNat), (17, .slice A la ca), (18, .int .i64 la), (19, .int .i64 i)]) (fun i w' => i ≤ la ∧ w1.heap.size ≤ w'.heap.size ∧ GR 64 w' (p1 + 1) (some ⟨p1, 0, none⟩) ((la : Int) + (lb : Int) - 1).toNat ((la : Int) + (lb : Int) - 1).toNat (rowG ((la : Int) + (lb : Int) - 1).toNat (fun k => (lin lb (fR (re gs) (im gs) (re hs) (im hs)) i k, lin lb (fI (re gs) (im gs) (re hs) (im hs)) i k))) ∧ SlR SA w' A la 2 (gVs gs) ∧ SlR SB w' B lb 2 (gVs hs) ∧ Ch (No) w w') (fun i => la - i) 0 ?_ ⟨rfl, rfl, rfl, rfl, rfl, trivial⟩ ?_
  · exact ⟨(by omega), (Nat.le_refl _), (by rw [show (fun k => (lin lb (fR (re gs) (im gs) (re hs) (im hs)) 0 k, lin lb (fI (re gs) (im gs) (re hs) (im hs)) 0 k)) = (fun _ => ((0 : Int), (0 : Int))) from rfl, rowG_zero]; exact o1), sa_1, sb_1, CH_1⟩
  rintro i w2 ⟨hi, hsz2, ou_2, sa_2, sb_2, CH_2⟩
  show VC _ _ _ _ [(1, .slice B lb cb), (5, .slice (some ⟨p1, 0, none⟩) ((la : Int) + (lb : Int) - 1).toNat ((la : Int) + (lb : Int) - 1).toNat), (17, .slice A la ca), (18, .int .i64 la), (19, .int .i64 i)] _
  refine VC.seq (VC.region (VO.mv (Rn.lss rfl rfl) rfl rfl rfl (VO.nil (VQ.then_code (VC.seq (VC.cond_if rfl (fun hc1 => ?_) (fun hc1 => ?_)))))))
  · skip
    refine VC.skip (VQ.then_code (VC.seq (VC.block (VC.seq (VC.region (VO.mv (Rn.move rfl) rfl rfl rfl (VO.mv (Rn.indexS Tryz.underlying57 Tryz.sizeOf64 rfl rfl (sa_2.ne (by omega)) (by omega) (by omega)) rfl rfl rfl ?_)))))))
    refine VO.mv (Rn.loads Tryz.isAgg64 Tryz.sizeOf64 rfl rfl (SlR.partG (sa_2) (by omega) (by omega))) rfl rfl rfl (VO.wk (Wk.alloc Tryz.zeroValue64) rfl rfl rfl ?_)
    rintro _ w3 ⟨p3, rfl, N3⟩
    have c3 := N3.ch
    have e3 := N3.p; have z3 := N3.size
    have b7 := Bk.new N3
    refine VO.mv (Rn.assign rfl) rfl rfl rfl (VO.wk0 (Wk.puts Tryz.sizeOf64 rfl rfl rfl rfl b7 (Nat.le_of_ble_eq_true rfl)) rfl rfl ?_)
    intro _ w4 Z4
    have c4 := Z4.ch; have z4 := Z4.size
    have b7_4 := Bk.put Z4
    refine VO.nil (VQ.then_code (VC.seq (VC.region (VO.mv (Rn.move rfl) rfl rfl rfl (VO.mv (Rn.len Tryz.underlying57 rfl) rfl rfl rfl (VO.mv (Rn.move rfl) rfl rfl rfl (VO.nil ?_)))))))
    refine VQ.then_code (VC.block ?_)
    have cc_2_4 : Ch No w2 w4 := (Ch.then (E := No) c3 c4 (by intro q h1 h2; rcases h2 with h2 | h2 <;> first | exact h2 | (exfalso; omega)))
    have ou_4 := ou_2.keep cc_2_4
    have sa_4 := sa_2.keep cc_2_4
    have sb_4 := sb_2.keep cc_2_4
    have CH_4 := CH_2.and cc_2_4
    refine VC.loopS (σ := Nat) (fun j => [(1, .slice B lb cb), (5, .slice (some ⟨p1, 0, none⟩) ((la : Int) + (lb : Int) - 1).toNat ((la : Int) + (lb : Int) - 1).toNat), (6, .int .i64 i), (7, .pointer (some ⟨p3, 0, none⟩)), (17, .slice A la ca), (18, .int .i64 la), (19, .int .i64 i), (24, .slice B lb cb), (25, .int .i64 lb), (26, .int .i64 j)]) (fun j w' => j ≤ lb ∧ w4.heap.size ≤ w'.heap.size ∧ GR 64 w' (p1 + 1) (some ⟨p1, 0, none⟩) ((la : Int) + (lb : Int) - 1).toNat ((la : Int) + (lb : Int) - 1).toNat (rowG ((la : Int) + (lb : Int) - 1).toNat (fun k => (linS lb (fR (re gs) (im gs) (re hs) (im hs)) i j k, linS lb (fI (re gs) (im gs) (re hs) (im hs)) i j k))) ∧ Bk w' p3 #[.int .i64 (re gs i), .int .i64 (im gs i)] 64 ∧ SlR SA w' A la 2 (gVs gs) ∧ SlR SB w' B lb 2 (gVs hs) ∧ Ch (No) w w') (fun j => lb - j) 0 ?_ ⟨rfl, rfl, rfl, rfl, rfl, rfl, rfl, rfl, rfl, rfl, trivial⟩ ?_
    · exact ⟨(by omega), (Nat.le_refl _), (by rw [rowG_congr (g := fun k => (lin lb (fR (re gs) (im gs) (re hs) (im hs)) i k, lin lb (fI (re gs) (im gs) (re hs) (im hs)) i k)) (fun k _ => by rw [linS_zero, linS_zero])]; exact ou_4), b7_4, sa_4, sb_4, CH_4⟩
    rintro j w5 ⟨hj, hsz5, ou_5, b7_5, sa_5, sb_5, CH_5⟩
    show VC _ _ _ _ [(1, .slice B lb cb), (5, .slice (some ⟨p1, 0, none⟩) ((la : Int) + (lb : Int) - 1).toNat ((la : Int) + (lb : Int) - 1).toNat), (6, .int .i64 i), (7, .pointer (some ⟨p3, 0, none⟩)), (17, .slice A la ca), (18, .int .i64 la), (19, .int .i64 i), (24, .slice B lb cb), (25, .int .i64 lb), (26, .int .i64 j)] _
    refine VC.seq (VC.region (VO.mv (Rn.lss rfl rfl) rfl rfl rfl (VO.nil (VQ.then_code (VC.seq (VC.cond_if rfl (fun hc2 => ?_) (fun hc2 => ?_)))))))
    · skip
      refine VC.skip (VQ.then_code (VC.seq (VC.block (VC.seq (VC.region (VO.mv (Rn.move rfl) rfl rfl rfl (VO.mv (Rn.indexS Tryz.underlying57 Tryz.sizeOf64 rfl rfl (sb_5.ne (by omega)) (by omega) (by omega)) rfl rfl rfl ?_)))))))
      refine VO.mv (Rn.loads Tryz.isAgg64 Tryz.sizeOf64 rfl rfl (SlR.partG (sb_5) (by omega) (by omega))) rfl rfl rfl (VO.wk (Wk.alloc Tryz.zeroValue64) rfl rfl rfl ?_)
      rintro _ w6 ⟨p6, rfl, N6⟩
      have c6 := N6.ch
      have e6 := N6.p; have z6 := N6.size
      have b9 := Bk.new N6
      refine VO.mv (Rn.assign rfl) rfl rfl rfl (VO.wk0 (Wk.puts Tryz.sizeOf64 rfl rfl rfl rfl b9 (Nat.le_of_ble_eq_true rfl)) rfl rfl ?_)
      intro _ w7 Z7
      have c7 := Z7.ch; have z7 := Z7.size
      have b9_7 := Bk.put Z7
      refine VO.nil (VQ.then_code (VC.seq ?_))
      have hd1 := rowG_get (n := ((la : Int) + (lb : Int) - 1).toNat) (f := (fun k => (linS lb (fR (re gs) (im gs) (re hs) (im hs)) i j k, linS lb (fI (re gs) (im gs) (re hs) (im hs)) i j k))) (k := i + j) (by omega)
      have hd2 : ((rowG ((la : Int) + (lb : Int) - 1).toNat (fun k => (linS lb (fR (re gs) (im gs) (re hs) (im hs)) i j k, linS lb (fI (re gs) (im gs) (re hs) (im hs)) i j k))).getD ((i : Int) + (j : Int)).toNat (0, 0)).1 = linS lb (fR (re gs) (im gs) (re hs) (im hs)) i j (i + j) := congrArg Prod.fst hd1
      have hbd := linS_bd g1 g2 (i := i) (j := j) (k := i + j) (by omega) (by omega)
      have ea := g1.el (j := i) (by omega); have eb := g2.el (j := j) (by omega)
      have m1 := mulI_bd (a := re gs i) (b := (hs.getD ((j : Int)).toNat (0, 0)).1) (by omega) (by show (re hs j).natAbs ≤ _; omega)
      have m2 := mulI_bd (a := im gs i) (b := (hs.getD ((j : Int)).toNat (0, 0)).2) (by omega) (by show (im hs j).natAbs ≤ _; omega)
      have m3 := mulI_bd (a := re gs i) (b := (hs.getD ((j : Int)).toNat (0, 0)).2) (by omega) (by show (im hs j).natAbs ≤ _; omega)
      have m4 := mulI_bd (a := im gs i) (b := (hs.getD ((j : Int)).toNat (0, 0)).1) (by omega) (by show (re hs j).natAbs ≤ _; omega)
      refine VC.draws 21 [(0, true), (1, true), (2, true), (3, true), (4, true), (5, true), (6, true), (7, true), (8, true), (9, true), (10, true), (11, true), (12, true), (13, true), (14, true), (15, true), (16, true), (17, true), (18, true), (19, true), (20, true)] (fun w1 w' => Ch (No) w1 w') mixed (by kernel_rfl) (fun _ _ => Ch.refl _ _) ?_
      intro w8 D8
      have c8 := Ch.of_drew D8; have z8 := c8.size
      have cc_5_8 : Ch No w5 w8 := ((Ch.then (E := No) c6 c7 (by intro q h1 h2; rcases h2 with h2 | h2 <;> first | exact h2 | (exfalso; omega))).and c8)
      have sa_8 := sa_5.keep cc_5_8
      have sb_8 := sb_5.keep cc_5_8
      have ou_8 := ou_5.keep cc_5_8
      have b7_8 := b7_5.keep cc_5_8
      have b9_8 := b9_7.keep c8
      refine VH.mv (fun w' hS => Rn.move rfl) rfl rfl rfl rfl (VH.mv (fun w' hS => Rn.move rfl) rfl rfl rfl rfl (VH.mv (fun w' hS => Rn.move rfl) rfl rfl rfl rfl ?_))
      refine VH.mv (fun w' hS => Rn.add rfl rfl (by rw [IntKind.wrap_i64]; omega)) rfl rfl rfl rfl ?_
      refine VH.mv (fun w' hS => Rn.indexS Tryz.underlying57 Tryz.sizeOf64 rfl rfl (ou_8.sl.ne (by omega)) (by omega) (by omega)) rfl rfl rfl rfl (VH.mv (fun w' hS => Rn.fieldA Tryz.underlying64 rfl Tryz.sizeOf3 rfl rfl rfl) rfl rfl rfl rfl (VH.mv (fun w' hS => Rn.load Tryz.isAgg3 rfl (SlR.getG0 ((ou_8.keep hS).sl) (by omega) (by omega))) rfl rfl rfl rfl (VH.mv (fun w' hS => Rn.field Tryz.underlying64 rfl Tryz.sizeOf3 rfl rfl rfl) rfl rfl rfl rfl (VH.mv (fun w' hS => Rn.load Tryz.isAgg3 rfl ((b7_8.keep hS).cell rfl)) rfl rfl rfl rfl (VH.mv (fun w' hS => Rn.field Tryz.underlying64 rfl Tryz.sizeOf3 rfl rfl rfl) rfl rfl rfl rfl (VH.mv (fun w' hS => Rn.load Tryz.isAgg3 rfl ((b9_8.keep hS).cell rfl)) rfl rfl rfl rfl ?_))))))
      refine VH.mv (fun w' hS => Rn.mul rfl rfl (by rw [IntKind.wrap_i64]; omega)) rfl rfl rfl rfl ?_
      refine VH.mv (fun w' hS => Rn.field Tryz.underlying64 rfl Tryz.sizeOf3 rfl rfl rfl) rfl rfl rfl rfl (VH.mv (fun w' hS => Rn.load Tryz.isAgg3 rfl ((b7_8.keep hS).cell rfl)) rfl rfl rfl rfl (VH.mv (fun w' hS => Rn.field Tryz.underlying64 rfl Tryz.sizeOf3 rfl rfl rfl) rfl rfl rfl rfl (VH.mv (fun w' hS => Rn.load Tryz.isAgg3 rfl ((b9_8.keep hS).cell rfl)) rfl rfl rfl rfl ?_)))
      refine VH.mv (fun w' hS => Rn.mul rfl rfl (by rw [IntKind.wrap_i64]; omega)) rfl rfl rfl rfl ?_
      refine VH.mv (fun w' hS => Rn.sub rfl rfl (by rw [IntKind.wrap_i64]; omega)) rfl rfl rfl rfl ?_
      refine VH.mv (fun w' hS => Rn.add rfl rfl (by rw [IntKind.wrap_i64]; omega)) rfl rfl rfl rfl ?_
      refine VH.mv (fun w' hS => Rn.indexS Tryz.underlying57 Tryz.sizeOf64 rfl rfl (ou_8.sl.ne (by omega)) (by omega) (by omega)) rfl rfl rfl rfl (VH.mv (fun w' hS => Rn.fieldA Tryz.underlying64 rfl Tryz.sizeOf3 rfl rfl rfl) rfl rfl rfl rfl (VH.done (VO.wk0 (Wk.putG0 Tryz.sizeOf3 rfl rfl (by omega) ou_8) rfl rfl ?_)))
      rintro _ w9 ⟨o9, c9, z9⟩
      have y9 := Ow.lt o9
      refine VO.nil (VQ.noPanic (VQ.then_code ?_))
      have ou9 : GR 64 w9 (p1 + 1) (some ⟨p1, 0, none⟩) ((la : Int) + (lb : Int) - 1).toNat ((la : Int) + (lb : Int) - 1).toNat (rowG ((la : Int) + (lb : Int) - 1).toNat (fun k => (linS lb (fR (re gs) (im gs) (re hs) (im hs)) i (j + 1) k, linS lb (fI (re gs) (im gs) (re hs) (im hs)) i j k))) := by have h9 := o9; rw [← lin_set1 (F := (fR (re gs) (im gs) (re hs) (im hs))) (x := re gs i * re hs j - im gs i * im hs j) (show i + j < ((la : Int) + (lb : Int) - 1).toNat by omega) rfl]; exact h9
      have hd3 := rowG_get (n := ((la : Int) + (lb : Int) - 1).toNat) (f := (fun k => (linS lb (fR (re gs) (im gs) (re hs) (im hs)) i (j + 1) k, linS lb (fI (re gs) (im gs) (re hs) (im hs)) i j k))) (k := i + j) (by omega)
      have hd4 : ((rowG ((la : Int) + (lb : Int) - 1).toNat (fun k => (linS lb (fR (re gs) (im gs) (re hs) (im hs)) i (j + 1) k, linS lb (fI (re gs) (im gs) (re hs) (im hs)) i j k))).getD ((i : Int) + (j : Int)).toNat (0, 0)).2 = linS lb (fI (re gs) (im gs) (re hs) (im hs)) i j (i + j) := congrArg Prod.snd hd3
      refine VC.draws 21 [(0, true), (1, true), (2, true), (3, true), (4, true), (5, true), (6, true), (7, true), (8, true), (9, true), (10, true), (11, true), (12, true), (13, true), (14, true), (15, true), (16, true), (17, true), (18, true), (19, true), (20, true)] (fun w1 w' => Ch (No) w1 w') mixed (by kernel_rfl) (fun _ _ => Ch.refl _ _) ?_
      intro w10 D10
      have c10 := Ch.of_drew D10; have z10 := c10.size
      have sa_9 := sa_8.to c9 (by first | exact fun _ _ _ _ => id | (intro q h1 h2 hx h3; have := hA q h2; omega))
      have sa_10 := sa_9.keep c10
      have sb_9 := sb_8.to c9 (by first | exact fun _ _ _ _ => id | (intro q h1 h2 hx h3; have := hB q h2; omega))
      have sb_10 := sb_9.keep c10
      have ou_10 := ou9.keep c10
      have b7_9 := b7_8.to c9 (by first | exact id | omega)
      have b7_10 := b7_9.keep c10
      have b9_9 := b9_8.to c9 (by first | exact id | omega)
      have b9_10 := b9_9.keep c10
      refine VH.mv (fun w' hS => Rn.move rfl) rfl rfl rfl rfl (VH.mv (fun w' hS => Rn.move rfl) rfl rfl rfl rfl (VH.mv (fun w' hS => Rn.move rfl) rfl rfl rfl rfl ?_))
      refine VH.mv (fun w' hS => Rn.add rfl rfl (by rw [IntKind.wrap_i64]; omega)) rfl rfl rfl rfl ?_
      refine VH.mv (fun w' hS => Rn.indexS Tryz.underlying57 Tryz.sizeOf64 rfl rfl (ou_10.sl.ne (by omega)) (by omega) (by omega)) rfl rfl rfl rfl (VH.mv (fun w' hS => Rn.fieldA Tryz.underlying64 rfl Tryz.sizeOf3 rfl rfl rfl) rfl rfl rfl rfl (VH.mv (fun w' hS => Rn.load Tryz.isAgg3 rfl (SlR.getG1 ((ou_10.keep hS).sl) (by omega) (by omega))) rfl rfl rfl rfl (VH.mv (fun w' hS => Rn.field Tryz.underlying64 rfl Tryz.sizeOf3 rfl rfl rfl) rfl rfl rfl rfl (VH.mv (fun w' hS => Rn.load Tryz.isAgg3 rfl ((b7_10.keep hS).cell rfl)) rfl rfl rfl rfl (VH.mv (fun w' hS => Rn.field Tryz.underlying64 rfl Tryz.sizeOf3 rfl rfl rfl) rfl rfl rfl rfl (VH.mv (fun w' hS => Rn.load Tryz.isAgg3 rfl ((b9_10.keep hS).cell rfl)) rfl rfl rfl rfl ?_))))))
      refine VH.mv (fun w' hS => Rn.mul rfl rfl (by rw [IntKind.wrap_i64]; omega)) rfl rfl rfl rfl ?_
      refine VH.mv (fun w' hS => Rn.field Tryz.underlying64 rfl Tryz.sizeOf3 rfl rfl rfl) rfl rfl rfl rfl (VH.mv (fun w' hS => Rn.load Tryz.isAgg3 rfl ((b7_10.keep hS).cell rfl)) rfl rfl rfl rfl (VH.mv (fun w' hS => Rn.field Tryz.underlying64 rfl Tryz.sizeOf3 rfl rfl rfl) rfl rfl rfl rfl (VH.mv (fun w' hS => Rn.load Tryz.isAgg3 rfl ((b9_10.keep hS).cell rfl)) rfl rfl rfl rfl ?_)))
      refine VH.mv (fun w' hS => Rn.mul rfl rfl (by rw [IntKind.wrap_i64]; omega)) rfl rfl rfl rfl ?_
      refine VH.mv (fun w' hS => Rn.add rfl rfl (by rw [IntKind.wrap_i64]; omega)) rfl rfl rfl rfl ?_
      refine VH.mv (fun w' hS => Rn.add rfl rfl (by rw [IntKind.wrap_i64]; omega)) rfl rfl rfl rfl ?_
      refine VH.mv (fun w' hS => Rn.indexS Tryz.underlying57 Tryz.sizeOf64 rfl rfl (ou_10.sl.ne (by omega)) (by omega) (by omega)) rfl rfl rfl rfl (VH.mv (fun w' hS => Rn.fieldA Tryz.underlying64 rfl Tryz.sizeOf3 rfl rfl rfl) rfl rfl rfl rfl (VH.done (VO.wk0 (Wk.putG1 Tryz.sizeOf3 rfl rfl (by omega) ou_10) rfl rfl ?_)))
      rintro _ w11 ⟨o11, c11, z11⟩
      have y11 := Ow.lt o11
      refine VO.nil (VQ.noPanic (VQ.block_normal (VQ.then_code (VC.region ?_))))
      refine VO.mv (Rn.add rfl rfl (by rw [IntKind.wrap_i64]; omega)) rfl rfl rfl ?_
      refine VO.mv (Rn.move rfl) rfl rfl rfl (VO.nil ?_)
      refine VQ.round (j + 1) (by first | omega | (dsimp only; omega)) ?_ ⟨rfl, rfl, rfl, rfl, rfl, rfl, rfl, rfl, rfl, rfl, trivial⟩
      have b7_11 := b7_10.to c11 (by first | exact id | omega)
      have sa_11 := sa_10.to c11 (by first | exact fun _ _ _ _ => id | (intro q h1 h2 hx h3; have := hA q h2; omega))
      have sb_11 := sb_10.to c11 (by first | exact fun _ _ _ _ => id | (intro q h1 h2 hx h3; have := hB q h2; omega))
      have CH_8 := CH_5.and cc_5_8
      have CH_9 : Ch (No) w w9 := CH_8.then c9 (by intro q h1 h2; rcases h2 with h2 | h2 <;> first | exact h2 | (exfalso; omega) | omega)
      have CH_10 := CH_9.and c10
      have CH_11 : Ch (No) w w11 := CH_10.then c11 (by intro q h1 h2; rcases h2 with h2 | h2 <;> first | exact h2 | (exfalso; omega) | omega)
      exact ⟨(by omega), (by omega), (by have h9 := o11; rw [← lin_set2 (F := (fI (re gs) (im gs) (re hs) (im hs))) (x := re gs i * im hs j + im gs i * re hs j) (show i + j < ((la : Int) + (lb : Int) - 1).toNat by omega) rfl]; exact h9), b7_11, sa_11, sb_11, CH_11⟩
    · skip
      refine VC.exit (VQ.then_exit (VQ.then_exit (VQ.block_exit (VQ.block_normal (VQ.then_code (VC.region ?_))))))
      refine VO.mv (Rn.add rfl rfl (by rw [IntKind.wrap_i64]; omega)) rfl rfl rfl ?_
      refine VO.mv (Rn.move rfl) rfl rfl rfl (VO.nil ?_)
      refine VQ.round (i + 1) (by first | omega | (dsimp only; omega)) ?_ ⟨rfl, rfl, rfl, rfl, rfl, trivial⟩
      exact ⟨(by omega), (by omega), (by have h9 := ou_5; rw [show j = lb by omega] at h9; exact h9), sa_5, sb_5, CH_5⟩
  · skip
    refine VC.exit (VQ.then_exit (VQ.then_exit (VQ.block_exit (VQ.then_code (VC.seq (VC.region (VO.mv (Rn.move rfl) rfl rfl rfl ?_)))))))
    refine VO.mv (Rn.assign rfl) rfl rfl rfl (VO.nil (VQ.then_code (VC.ret (VQ.ret1 rfl rfl (Ret.mk ?_)))))
    obtain rfl : i = la := by omega
    have e9 : ((i : Int) + (lb : Int) - 1).toNat = i + lb - 1 := by omega
    have o9 := ou_2; rw [e9] at o9
    exact ⟨_, congrArg (fun m => Value.slice (some ⟨p1, 0, none⟩) m m) e9, o9, by omega, CH_2⟩
end Go.Tm
