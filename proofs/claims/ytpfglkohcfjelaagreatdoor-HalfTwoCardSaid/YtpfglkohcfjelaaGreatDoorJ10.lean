/- Lemmas of this claim, joined by program. Walks of functions: the machine's acts, all operations. Walks of functions: the machine's run, all operations. Programs compiled deep are good, in plain Lean. Programs compiled deep are good: the induction over the order. Conditions: each lemma names its own. -/
import Derived.Test.YtpfglkohcfjelaaGreatDoorJ09
import Derived.DeepKeys
import Derived.Test.YtpfglkohcfjelaaGreatDoorJ05
set_option linter.all false
namespace Go.Tm
set_option maxRecDepth 100000
open Go.RowKit Go.Proofs Go.Proofs.Tryz
abbrev MS (m r : Nat) : Nat → Prop := fun q => q = m ∨ r = q + 1
structure Fil where
  A : Option Addr
  l : Nat
  c : Nat
  s : Stp
  r : Nat
  zs : List CB
abbrev macG (b : Bld) (N : Nat) (SA : Option Addr) (sc : Nat) (bs : ByteArray) (CA : Option Addr) (ac dn st at_ : Int) (F : Fil) : Array Value := #[.int .i64 b.ln, .int .i64 b.cl, .int .i64 b.i0, .int .i64 b.ou, .slice SA b.steps.length sc, .string bs, .slice CA N N, .int .i64 ac, .int .i64 dn, .int .i64 st, .int .i64 at_, .slice F.A F.l F.c, .int .i64 F.s.op, .int .i64 F.s.dst, .int .i64 F.s.src, .int .i64 F.s.jump, .int .i64 F.s.count, .int .i64 F.s.n, .int .i64 F.s.k]
structure FilR (w : World) (m r : Nat) (F : Fil) : Prop where
  ow : CR 33 w F.r F.A F.l F.c F.zs
  n1 : ¬ F.r = r
  n2 : ¬ F.r = m + 1
  sm : SmS F.s
  val : F.s.op = 8 → F.l = F.s.count.toNat ∧ F.zs.map cx = otherL F.s.n.toNat F.s.count.toNat
theorem FilR.to {D : Nat → Prop} {w w' : World} {m r : Nat} {F : Fil} (h : FilR w m r F) (c : Ch D w w') (hd : ∀ q, q < w.heap.size → F.r = q + 1 → q = q → ¬ D q := by first | exact fun _ _ _ _ => id | (intro q h1 h2 hx h3; omega)) : FilR w' m r F :=
 ⟨Ow.to h.ow c (fun q h1 h2 _ => hd q h1 h2 rfl), h.n1, h.n2, h.sm, h.val⟩
theorem FilR.keep {w w' : World} {m r : Nat} {F : Fil} (h : FilR w m r F) (c : Ch No w w') : FilR w' m r F := h.to c fun _ _ _ _ => id
structure MacG (w : World) (m r : Nat) (b : Bld) (N : Nat) (SA : Option Addr) (sc : Nat) (bs : ByteArray) (CA : Option Addr) (ac dn st at_ : Int) (F : Fil) (xs : List CB) : Prop where
  bk : Bk w m (macG b N SA sc bs CA ac dn st at_ F) 209
  row : CR 33 w r CA N N xs
  ne : ¬ r = m + 1
  fil : FilR w m r F
theorem MacG.to {D : Nat → Prop} {w w' : World} {m r : Nat} {b : Bld} {N : Nat} {SA : Option Addr} {sc : Nat} {bs : ByteArray} {CA : Option Addr} {ac dn st at_ : Int} {F : Fil} {xs : List CB} (h : MacG w m r b N SA sc bs CA ac dn st at_ F xs) (c : Ch D w w') (hd : ∀ q, q < w.heap.size → (q = m ∨ r = q + 1 ∨ F.r = q + 1) → q = q → ¬ D q := by first | exact fun _ _ _ _ => id | (intro q h1 h2 hx h3; omega)) : MacG w' m r b N SA sc bs CA ac dn st at_ F xs :=
 ⟨h.bk.to c (hd m h.bk.lt (.inl rfl) rfl), Ow.to h.row c (fun q h1 h2 _ => hd q h1 (.inr (.inl h2)) rfl), h.ne, h.fil.to c (fun q h1 h2 _ => hd q h1 (.inr (.inr h2)) rfl)⟩
theorem MacG.keep {w w' : World} {m r : Nat} {b : Bld} {N : Nat} {SA : Option Addr} {sc : Nat} {bs : ByteArray} {CA : Option Addr} {ac dn st at_ : Int} {F : Fil} {xs : List CB} (h : MacG w m r b N SA sc bs CA ac dn st at_ F xs) (c : Ch No w w') : MacG w' m r b N SA sc bs CA ac dn st at_ F xs := h.to c fun _ _ _ _ => id
theorem i64_wf {n : Int} (h : 0 ≤ n ∧ n ≤ 1000000) : (Lit.int .i64 n).wf = true := by
 have h1 : IntKind.i64.min = -9223372036854775808 := rfl
 have h2 : IntKind.i64.max = 9223372036854775807 := rfl
 simp [Lit.wf, IntKind.wrap]
 omega
theorem step_lits {s : Stp} (h : SmS s) : Tryz.prog.keyLits 2 135 (stpV s).cells.toList = some [.int .i64 s.op, .int .i64 s.dst, .int .i64 s.src, .int .i64 s.jump, .int .i64 s.count, .int .i64 s.n, .int .i64 s.k] := by
 obtain ⟨h1, h2, h3, h4, h5, h6, h7⟩ := h
 have c1 : Tryz.prog.cellsOf 135 = 7 := by kernel_rfl
 have c2 : Tryz.prog.cellsOf 3 = 1 := by kernel_rfl
 have e : ∀ n : Int, 0 ≤ n ∧ n ≤ 1000000 → Tryz.prog.keyLits 1 3 [.int .i64 n] = some [.int .i64 n] := fun n hn => by
  simp [Program.keyLits, υ3, i64_wf hn]
 unfold Program.keyLits
 rw [υ135]
 simp only [Value.cells, c1]
 rw [if_pos ⟨rfl, by kernel_rfl⟩]
 simp only [List.mapM_cons, List.mapM_nil, c2, List.drop_succ_cons, List.drop_zero, List.take_succ_cons, List.take_zero, e _ h1, e _ h2, e _ h3, e _ h4, e _ h5, e _ h6, e _ h7]
 rfl
theorem step_formed (s : Stp) : (stpV s).formed prog 135 = true := by
 have c1 : Tryz.prog.cellsOf 135 = 7 := by kernel_rfl
 simp [Value.formed, υ135, c1]
theorem step_eq (w : World) {s t : Stp} (hs : SmS s) (ht : SmS t) : ∃ r : Bool, (Op.equal 135 (stpV s) (stpV t)).run prog w = .ok r w ∧ (r = true ↔ s = t) := by
 obtain ⟨r, hr, hi⟩ := run_equalIn_deep (P := prog) (10000 - 2) 2 135 (by kernel_rfl) w 2 2 (stpV s) (stpV t) _ _ (step_formed s) (step_formed t) (step_lits hs) (step_lits ht)
 refine ⟨r, hr, hi.trans ⟨fun h => ?_, fun h => by rw [h]⟩⟩
 obtain ⟨a, b, c, d, e, f, g⟩ := s
 obtain ⟨a', b', c', d', e', f', g'⟩ := t
 simp only [List.cons.injEq, Lit.int.injEq, true_and, and_true] at h
 obtain ⟨h1, h2, h3, h4, h5, h6, h7⟩ := h
 subst h1 h2 h3 h4 h5 h6 h7
 rfl
section
variable {n : Fr} {k : K} {w : World} {d : Option Nat} {ty : TypeId} {pos : String} {aft : Array Edge} {gd : Option (Nat × Bool)} {t' : TypeId} {x y : Operand} {s t : Stp}
theorem Rn.stepNe (hx : ev k x = some (stpV s)) (hy : ev k y = some (stpV t)) (hs : SmS s) (ht : SmS t) {v : Bool} (hv : v = true ↔ ¬ s = t) : Rn prog n k w { dst := d, op := .binOp .neq 135 x y t', type := ty, pos := pos, after := aft, guard := gd } (.bool v) := by
 refine Rz hx hy (fun x y => ?_)
 obtain ⟨r, hr, hi⟩ := step_eq w hs ht
 have hg : (Tryz.prog.eqGuardType Tryz.prog.depth 135) = false := by kernel_rfl
 have e : v = !r := by
  cases r <;> cases v <;> simp_all
 simp [eqGuard, binOp, hg, hr, e]
theorem Rn.stepNeF (hx : ev k x = some (stpV s)) (hy : ev k y = some (stpV t)) (hs : SmS s) (ht : SmS t) (e : s = t) : Rn prog n k w { dst := d, op := .binOp .neq 135 x y t', type := ty, pos := pos, after := aft, guard := gd } (.bool false) := Rn.stepNe hx hy hs ht (by simp [e])
theorem Rn.stepNeT (hx : ev k x = some (stpV s)) (hy : ev k y = some (stpV t)) (hs : SmS s) (ht : SmS t) (e : ¬ s = t) : Rn prog n k w { dst := d, op := .binOp .neq 135 x y t', type := ty, pos := pos, after := aft, guard := gd } (.bool true) := Rn.stepNe hx hy hs ht (by simp [e])
end
theorem inf33w83 : Inf prog 33 (.complex .f64 0 0) 1 16 := ⟨Tryz.t33, type33, rfl, rfl, rfl⟩
theorem actG_gather (m r : Nat) (b : Bld) (N : Nat) (SA : Option Addr) (sc : Nat) (bs : ByteArray) (CA : Option Addr) (ac dn st at_ : Int) (F : Fil) (xs : List CB) (w : World) (mr : MacG w m r b N SA sc bs CA ac dn st at_ F xs) (hN : N ≤ 1000000) (op co nn kk : Int) (d sr ju i : Nat) (hd : d + i < N) (hs : sr + i * ju < N) :
  Calls prog 205 #[Kh m, .agg #[Kg op, Kg d, Kg sr, Kg ju, Kg co, Kg nn, Kg kk], Kg i] w (Ret (fun v w' => v = .tuple #[] ∧ ∃ F ys, MacG w' m r b N SA sc bs CA ac dn st at_ F ys ∧ ys.map cx = (xs.map cx).set (d + i) ((xs.map cx).getD (sr + i * ju) z0) ∧ Ch (MS m r) w w')) := by
 obtain ⟨bk, row, ne, fil⟩ := id mr
 have yr := Ow.lt row; have ym := bk.lt; have fn1 := fil.n1; have fn2 := fil.n2; have fy := Ow.lt fil.ow
 have e0 : ((i * ju : Nat) : Int) = (i : Int) * (ju : Int) := by push_cast; rfl
 refine Ku func205 O ntmps205 O (Kb (Km (Cp O) O ?_))
 intro p1 w1 b4 c1 e1 z1
 refine Ka (Kj 22 [0, 2, 4, 6, 8, 10, 12, 14, 16, 18, 20, 22, 24, 26, 28, 30, 32, 34, 36, 38, 40, 42] (No) ?_)
 intro w2 c2 z2
 have bk_2 := bk.keep (c1.trans c2)
 have row_2 := row.keep (c1.trans c2)
 have b4_2 := b4.keep c2
 refine Wv O O (Ws (Qq O) O (Ws (Qh υ209 O ς31 O O O) O (Wt (fun hS => Qg ι31 O ((bk_2.keep hS).cell O)) O (Ws (Qh υ135 O ς3 O O O) O (Wt (fun hS => Qg ι3 O ((b4_2.keep hS).cell O)) O (Wv O O ?_))))))
 refine Ws (Cd O O) O ?_
 refine Wv O O (Ws (Qq O) O (Ws (Qh υ209 O ς31 O O O) O (Wt (fun hS => Qg ι31 O ((bk_2.keep hS).cell O)) O (Ws (Qh υ135 O ς3 O O O) O (Wt (fun hS => Qg ι3 O ((b4_2.keep hS).cell O)) O (Wv O O (Ws (Qh υ135 O ς3 O O O) O ?_)))))))
 refine Wt (fun hS => Qg ι3 O ((b4_2.keep hS).cell O)) O ?_
 refine Ws (Cy O O) O ?_
 refine Ws (Cd O O) O ?_
 refine Ws (Qs υ31 ς33 O O (row_2.sl.ne (by omega))) O (Wt (fun hS => Qg ι33 O ((row_2.keep hS).sl.getC (by omega) (by omega))) O (Ws (Qs υ31 ς33 O O (row_2.sl.ne (by omega))) O (Cj (Oz (Rj ς33 O O (by omega) row_2) O ?_))))
 rintro _ w3 ⟨o3, c3, z3⟩
 have y3 := o3.lt
 refine Qf (Ca (Rp O (Kx ?_)))
 have row9 := o3; rw [show ((d : Int) + (i : Int)).toNat = d + i by omega, show ((sr : Int) + (i : Int) * (ju : Int)).toNat = sr + i * ju by omega] at row9
 have bk_3 := bk_2.to c3
 have fil_2 := fil.keep (c1.trans c2)
 have fil_3 := fil_2.to c3
 have CH_2 := (Ch.refl (MS m r) w).and (c1.trans c2)
 have CH_3 : Ch (MS m r) w w3 := CH_2.then c3
 exact ⟨O, _, _, ⟨bk_3, row9, ne, fil_3⟩, (by rw [map_getD, ← List.map_set]), CH_3⟩
theorem actG_scatter (m r : Nat) (b : Bld) (N : Nat) (SA : Option Addr) (sc : Nat) (bs : ByteArray) (CA : Option Addr) (ac dn st at_ : Int) (F : Fil) (xs : List CB) (w : World) (mr : MacG w m r b N SA sc bs CA ac dn st at_ F xs) (hN : N ≤ 1000000) (op co nn kk : Int) (d sr ju i : Nat) (hd : d + i * ju < N) (hs : sr + i < N) :
  Calls prog 206 #[Kh m, .agg #[Kg op, Kg d, Kg sr, Kg ju, Kg co, Kg nn, Kg kk], Kg i] w (Ret (fun v w' => v = .tuple #[] ∧ ∃ F ys, MacG w' m r b N SA sc bs CA ac dn st at_ F ys ∧ ys.map cx = (xs.map cx).set (d + i * ju) ((xs.map cx).getD (sr + i) z0) ∧ Ch (MS m r) w w')) := by
 obtain ⟨bk, row, ne, fil⟩ := id mr
 have yr := Ow.lt row; have ym := bk.lt; have fn1 := fil.n1; have fn2 := fil.n2; have fy := Ow.lt fil.ow
 have e0 : ((i * ju : Nat) : Int) = (i : Int) * (ju : Int) := by push_cast; rfl
 refine Ku func206 O ntmps206 O (Kb (Km (Cp O) O ?_))
 intro p1 w1 b4 c1 e1 z1
 refine Ka (Kj 22 [0, 2, 4, 6, 8, 10, 12, 14, 16, 18, 20, 22, 24, 26, 28, 30, 32, 34, 36, 38, 40, 42] (No) ?_)
 intro w2 c2 z2
 have bk_2 := bk.keep (c1.trans c2)
 have row_2 := row.keep (c1.trans c2)
 have b4_2 := b4.keep c2
 refine Wv O O (Ws (Qq O) O (Ws (Qh υ209 O ς31 O O O) O (Wt (fun hS => Qg ι31 O ((bk_2.keep hS).cell O)) O (Ws (Qh υ135 O ς3 O O O) O (Wt (fun hS => Qg ι3 O ((b4_2.keep hS).cell O)) O (Wv O O (Ws (Qh υ135 O ς3 O O O) O ?_)))))))
 refine Wt (fun hS => Qg ι3 O ((b4_2.keep hS).cell O)) O ?_
 refine Ws (Cy O O) O ?_
 refine Ws (Cd O O) O ?_
 refine Wv O O (Ws (Qq O) O (Ws (Qh υ209 O ς31 O O O) O (Wt (fun hS => Qg ι31 O ((bk_2.keep hS).cell O)) O (Ws (Qh υ135 O ς3 O O O) O (Wt (fun hS => Qg ι3 O ((b4_2.keep hS).cell O)) O (Wv O O ?_))))))
 refine Ws (Cd O O) O ?_
 refine Ws (Qs υ31 ς33 O O (row_2.sl.ne (by omega))) O (Wt (fun hS => Qg ι33 O ((row_2.keep hS).sl.getC (by omega) (by omega))) O (Ws (Qs υ31 ς33 O O (row_2.sl.ne (by omega))) O (Cj (Oz (Rj ς33 O O (by omega) row_2) O ?_))))
 rintro _ w3 ⟨o3, c3, z3⟩
 have y3 := o3.lt
 refine Qf (Ca (Rp O (Kx ?_)))
 have row9 := o3; rw [show ((sr : Int) + (i : Int)).toNat = sr + i by omega, show ((d : Int) + (i : Int) * (ju : Int)).toNat = d + i * ju by omega] at row9
 have bk_3 := bk_2.to c3
 have fil_2 := fil.keep (c1.trans c2)
 have fil_3 := fil_2.to c3
 have CH_2 := (Ch.refl (MS m r) w).and (c1.trans c2)
 have CH_3 : Ch (MS m r) w w3 := CH_2.then c3
 exact ⟨O, _, _, ⟨bk_3, row9, ne, fil_3⟩, (by rw [map_getD, ← List.map_set]), CH_3⟩
theorem actG_zero (m r : Nat) (b : Bld) (N : Nat) (SA : Option Addr) (sc : Nat) (bs : ByteArray) (CA : Option Addr) (ac dn st at_ : Int) (F : Fil) (xs : List CB) (w : World) (mr : MacG w m r b N SA sc bs CA ac dn st at_ F xs) (hN : N ≤ 1000000) (op co nn kk : Int) (d sr ju i : Nat) (hd : d + i < N) :
  Calls prog 207 #[Kh m, .agg #[Kg op, Kg d, Kg sr, Kg ju, Kg co, Kg nn, Kg kk], Kg i] w (Ret (fun v w' => v = .tuple #[] ∧ ∃ F ys, MacG w' m r b N SA sc bs CA ac dn st at_ F ys ∧ ys.map cx = (xs.map cx).set (d + i) z0 ∧ Ch (MS m r) w w')) := by
 obtain ⟨bk, row, ne, fil⟩ := id mr
 have yr := Ow.lt row; have ym := bk.lt; have fn1 := fil.n1; have fn2 := fil.n2; have fy := Ow.lt fil.ow
 refine Ku func207 O ntmps207 O (Kb (Km (Cp O) O ?_))
 intro p1 w1 b4 c1 e1 z1
 refine Ka (Kj 9 [0, 2, 4, 6, 8, 10, 12, 14, 16] (No) ?_)
 intro w2 c2 z2
 have bk_2 := bk.keep (c1.trans c2)
 have row_2 := row.keep (c1.trans c2)
 have b4_2 := b4.keep c2
 refine Wv O O (Ws (Qq O) O (Ws (Qh υ209 O ς31 O O O) O (Wt (fun hS => Qg ι31 O ((bk_2.keep hS).cell O)) O (Ws (Qh υ135 O ς3 O O O) O (Wt (fun hS => Qg ι3 O ((b4_2.keep hS).cell O)) O (Wv O O ?_))))))
 refine Ws (Cd O O) O ?_
 refine Ws (Qs υ31 ς33 O O (row_2.sl.ne (by omega))) O (Cj (Oz (Rj ς33 O O (by omega) row_2) O ?_))
 rintro _ w3 ⟨o3, c3, z3⟩
 have y3 := o3.lt
 refine Qf (Ca (Rp O (Kx ?_)))
 have row9 := o3; rw [show ((d : Int) + (i : Int)).toNat = d + i by omega] at row9
 have bk_3 := bk_2.to c3
 have fil_2 := fil.keep (c1.trans c2)
 have fil_3 := fil_2.to c3
 have CH_2 := (Ch.refl (MS m r) w).and (c1.trans c2)
 have CH_3 : Ch (MS m r) w w3 := CH_2.then c3
 exact ⟨O, _, _, ⟨bk_3, row9, ne, fil_3⟩, (by rw [← List.map_set]), CH_3⟩
theorem actG_twist (m r : Nat) (b : Bld) (N : Nat) (SA : Option Addr) (sc : Nat) (bs : ByteArray) (CA : Option Addr) (ac dn st at_ : Int) (F : Fil) (xs : List CB) (w : World) (mr : MacG w m r b N SA sc bs CA ac dn st at_ F xs) (hN : N ≤ 1000000) (op co : Int) (d sr ju nn kk i : Nat) (hd : d + i < N := by omega) (hn : 1 ≤ nn := by omega) (hn2 : nn ≤ 16384 := by omega) (hk : kk < nn := by omega) (hi : i ≤ 1000000 := by omega) :
  Calls prog 208 #[Kh m, .agg #[Kg op, Kg d, Kg sr, Kg ju, Kg co, Kg nn, Kg kk], Kg i] w (Ret (fun v w' => v = .tuple #[] ∧ ∃ F ys, MacG w' m r b N SA sc bs CA ac dn st at_ F ys ∧ ys.map cx = (xs.map cx).set (d + i) (twistF ((xs.map cx).getD (d + i) z0) nn (kk * i % nn)) ∧ Ch (MS m r) w w')) := by
 obtain ⟨bk, row, ne, fil⟩ := id mr
 have yr := Ow.lt row; have ym := bk.lt; have fn1 := fil.n1; have fn2 := fil.n2; have fy := Ow.lt fil.ow
 have e0 : ((kk * i : Nat) : Int) = (kk : Int) * (i : Int) := by push_cast; rfl
 have hb9 : kk * i ≤ 16384 * 1000000 := Nat.mul_le_mul (by omega) (by omega)
 have hq9 : ((kk : Int) * (i : Int)) % (nn : Int) = ((kk * i % nn : Nat) : Int) := by rw [← e0]; norm_cast
 refine Ku func208 O ntmps208 O (Kb (Km (Cp O) O ?_))
 intro p1 w1 b4 c1 e1 z1
 refine Wz (Kj 21 [0, 2, 4, 6, 8, 10, 12, 14, 16, 18, 20, 22, 24, 26, 28, 30, 33, 34, 36, 38, 40] (No) ?_)
 intro w2 c2 z2
 have bk_2 := bk.keep (c1.trans c2)
 have row_2 := row.keep (c1.trans c2)
 have b4_2 := b4.keep c2
 refine Wv O O (Ws (Qq O) O (Ws (Qh υ209 O ς31 O O O) O (Wt (fun hS => Qg ι31 O ((bk_2.keep hS).cell O)) O (Ws (Qh υ135 O ς3 O O O) O (Wt (fun hS => Qg ι3 O ((b4_2.keep hS).cell O)) O (Wv O O ?_))))))
 refine Ws (Cd O O) O ?_
 refine Ws (Qs υ31 ς33 O O (row_2.sl.ne (by omega))) O (Wt (fun hS => Qg ι33 O ((row_2.keep hS).sl.getC (by omega) (by omega))) O (Ws (Qh υ135 O ς3 O O O) O (Wt (fun hS => Qg ι3 O ((b4_2.keep hS).cell O)) O (Ws (Qh υ135 O ς3 O O O) O (Wt (fun hS => Qg ι3 O ((b4_2.keep hS).cell O)) O (Wv O O ?_))))))
 refine Ws (Cy O O) O ?_
 refine Hq (Qi call14 O (roots_Twist _ _ nn _ (kk * i % nn) (by omega) (by omega) ⟨by omega, by omega⟩ hq9 _)) O ?_
 rintro _ w3 ⟨p3, q3, rfl, F3, c3⟩
 have z3 := c3.size
 have RD_3 := (Ch.refl (No) w2).and c3
 refine ⟨RD_3, ?_⟩
 refine Wv O O (Ws (Qu O O) O (Ws (Qu O O) O (Wx O O (Cj (Ww O O (Qf (Ca ?_)))))))
 refine Qa (Kb (Wu O O (Om (Wa υ28 O) O (Ka (Rd O ?_)))))
 refine Kj 10 [0, 2, 4, 6, 8, 10, 12, 14, 16, 18] (No) ?_
 intro w4 c4 z4
 have bk_4 := bk_2.keep (c3.trans c4)
 have row_4 := row_2.keep (c3.trans c4)
 have b4_4 := b4_2.keep (c3.trans c4)
 refine Wv O O (Ws (Qq O) O (Ws (Qh υ209 O ς31 O O O) O (Wt (fun hS => Qg ι31 O ((bk_4.keep hS).cell O)) O (Ws (Qh υ135 O ς3 O O O) O (Wt (fun hS => Qg ι3 O ((b4_4.keep hS).cell O)) O (Wv O O ?_))))))
 refine Ws (Cd O O) O ?_
 refine Wv O O (Ws (Qs υ31 ς33 O O (row_4.sl.ne (by omega))) O (Cj (Oz (Rj ς33 O O (by omega) row_4) O ?_)))
 rintro _ w5 ⟨o5, c5, z5⟩
 have y5 := o5.lt
 refine Qf (Ca (Rp O (Kx ?_)))
 have row9 := o5; rw [show ((d : Int) + (i : Int)).toNat = d + i by omega] at row9
 have bk_5 := bk_4.to c5
 have fil_4 := fil.keep (c1.trans (c2.trans (c3.trans c4)))
 have fil_5 := fil_4.to c5
 have CH_4 := (Ch.refl (MS m r) w).and (c1.trans (c2.trans (c3.trans c4)))
 have CH_5 : Ch (MS m r) w w5 := CH_4.then c5
 exact ⟨O, _, _, ⟨bk_5, row9, ne, fil_5⟩, (by rw [map_getD, List.map_set, F3, show ((d : Int) + (i : Int)).toNat = d + i by omega]), CH_5⟩
theorem actG_direct (m r : Nat) (b : Bld) (N : Nat) (SA : Option Addr) (sc : Nat) (bs : ByteArray) (CA : Option Addr) (ac dn st at_ : Int) (F : Fil) (xs : List CB) (w : World) (mr : MacG w m r b N SA sc bs CA ac dn st at_ F xs) (hN : N ≤ 1000000) (op co kk : Int) (d sr ju nn i : Nat) (hn : 1 ≤ nn) (hn2 : nn ≤ 64) (hk : i < nn) (hv : 1 ≤ ju) (hv2 : ju ≤ 1000000) (hb : ∀ j, j < nn → sr + j * ju < N) (hd : d + i < N) :
  Calls prog 210 #[Kh m, .agg #[Kg op, Kg d, Kg sr, Kg ju, Kg co, Kg nn, Kg kk], Kg i] w (Ret (fun v w' => v = .tuple #[] ∧ ∃ F ys, MacG w' m r b N SA sc bs CA ac dn st at_ F ys ∧ ys.map cx = (xs.map cx).set (d + i) (directG nn i (fun j => (xs.map cx).getD (sr + j * ju) z0)) ∧ Ch (MS m r) w w')) := by
 obtain ⟨bk, row, ne, fil⟩ := id mr
 have yr := Ow.lt row; have ym := bk.lt; have fn1 := fil.n1; have fn2 := fil.n2; have fy := Ow.lt fil.ow
 have hb0 := hb 0 (by omega); rw [Nat.zero_mul] at hb0
 refine Ku func210 O ntmps210 O (Kb (Km (Cp O) O ?_))
 intro p1 w1 b4 c1 e1 z1
 refine Wz (Kj 16 [0, 2, 4, 6, 8, 10, 12, 14, 16, 18, 20, 23, 24, 26, 28, 30] (No) ?_)
 intro w2 c2 z2
 have bk_2 := bk.keep (c1.trans c2)
 have row_2 := row.keep (c1.trans c2)
 have b4_2 := b4.keep c2
 refine Wv O O (Ws (Qq O) O (Ws (Qh υ209 O ς31 O O O) O (Wt (fun hS => Qg ι31 O ((bk_2.keep hS).cell O)) O (Ws (Qh υ135 O ς3 O O O) O (Wt (fun hS => Qg ι3 O ((b4_2.keep hS).cell O)) O (Ws (Qh υ135 O ς3 O O O) O (Wt (fun hS => Qg ι3 O ((b4_2.keep hS).cell O)) O ?_)))))))
 refine Ws (Qh υ135 O ς3 O O O) O (Wt (fun hS => Qg ι3 O ((b4_2.keep hS).cell O)) O (Wv O O (Hq (Qi call251 O (direct_AtG _ _ _ _ _ _ _ _ (by omega) (by omega) (row_2).sl _ _ hn hn2 hk hv (by omega) hb)) O ?_)))
 rintro _ w3 ⟨p3, q3, rfl, F3, c3⟩
 have z3 := c3.size
 have RD_3 := (Ch.refl (No) w2).and c3
 refine ⟨RD_3, ?_⟩
 refine Wv O O (Ws (Qu O O) O (Ws (Qu O O) O (Wx O O (Cj (Ww O O (Qf (Ca ?_)))))))
 refine Qa (Kb (Wu O O (Om (Wa υ28 O) O (Ka (Rd O ?_)))))
 refine Kj 10 [0, 2, 4, 6, 8, 10, 12, 14, 16, 18] (No) ?_
 intro w4 c4 z4
 have bk_4 := bk_2.keep (c3.trans c4)
 have row_4 := row_2.keep (c3.trans c4)
 have b4_4 := b4_2.keep (c3.trans c4)
 refine Wv O O (Ws (Qq O) O (Ws (Qh υ209 O ς31 O O O) O (Wt (fun hS => Qg ι31 O ((bk_4.keep hS).cell O)) O (Ws (Qh υ135 O ς3 O O O) O (Wt (fun hS => Qg ι3 O ((b4_4.keep hS).cell O)) O (Wv O O ?_))))))
 refine Ws (Cd O O) O ?_
 refine Wv O O (Ws (Qs υ31 ς33 O O (row_4.sl.ne (by omega))) O (Cj (Oz (Rj ς33 O O (by omega) row_4) O ?_)))
 rintro _ w5 ⟨o5, c5, z5⟩
 have y5 := o5.lt
 refine Qf (Ca (Rp O (Kx ?_)))
 have row9 := o5; rw [show ((d : Int) + (i : Int)).toNat = d + i by omega] at row9
 have bk_5 := bk_4.to c5
 have fil_4 := fil.keep (c1.trans (c2.trans (c3.trans c4)))
 have fil_5 := fil_4.to c5
 have CH_4 := (Ch.refl (MS m r) w).and (c1.trans (c2.trans (c3.trans c4)))
 have CH_5 : Ch (MS m r) w w5 := CH_4.then c5
 exact ⟨O, _, _, ⟨bk_5, row9, ne, fil_5⟩, (by simp only [map_getD]; rw [List.map_set, F3]), CH_5⟩
theorem actG_chirp (m r : Nat) (b : Bld) (N : Nat) (SA : Option Addr) (sc : Nat) (bs : ByteArray) (CA : Option Addr) (ac dn st at_ : Int) (F : Fil) (xs : List CB) (w : World) (mr : MacG w m r b N SA sc bs CA ac dn st at_ F xs) (hN : N ≤ 1000000) (op co kk : Int) (d sr ju nn i : Nat) (hd : d + i < N := by omega) (hn : 1 ≤ nn := by omega) (hn2 : nn ≤ 16384 := by omega) (hi : i ≤ 1000000 := by omega) :
  Calls prog 211 #[Kh m, .agg #[Kg op, Kg d, Kg sr, Kg ju, Kg co, Kg nn, Kg kk], Kg i] w (Ret (fun v w' => v = .tuple #[] ∧ ∃ F ys, MacG w' m r b N SA sc bs CA ac dn st at_ F ys ∧ ys.map cx = (xs.map cx).set (d + i) (mulC ((xs.map cx).getD (d + i) z0) (chirpF nn i)) ∧ Ch (MS m r) w w')) := by
 obtain ⟨bk, row, ne, fil⟩ := id mr
 have yr := Ow.lt row; have ym := bk.lt; have fn1 := fil.n1; have fn2 := fil.n2; have fy := Ow.lt fil.ow
 refine Ku func211 O ntmps211 O (Kb (Km (Cp O) O ?_))
 intro p1 w1 b4 c1 e1 z1
 refine Wy (Om (Qh υ135 O ς3 O O O) O (Om (Qg ι3 O (b4.cell O)) O (Wu O O (Oq (Qi call252 O (chirp_At _ _ (by omega) (by omega) (by omega) _)) O ?_))))
 rintro _ w2 ⟨x2, y2, rfl, F2, c2⟩
 have z2 := c2.size
 refine Wu O O (Om (Qu O O) O (Om (Qu O O) O (Ww O O (Ww O O (Wz ?_)))))
 refine Qb (Wu O O (Om (Wa υ28 O) O (Ka (Rd O (Kj 21 [0, 2, 4, 6, 8, 10, 12, 14, 16, 18, 20, 22, 24, 26, 28, 30, 32, 34, 36, 39, 40] (No) ?_)))))
 intro w3 c3 z3
 have bk_3 := bk.keep (c1.trans (c2.trans c3))
 have row_3 := row.keep (c1.trans (c2.trans c3))
 have b4_3 := b4.keep (c2.trans c3)
 refine Wv O O (Ws (Qq O) O (Ws (Qh υ209 O ς31 O O O) O (Wt (fun hS => Qg ι31 O ((bk_3.keep hS).cell O)) O (Ws (Qh υ135 O ς3 O O O) O (Wt (fun hS => Qg ι3 O ((b4_3.keep hS).cell O)) O (Wv O O ?_))))))
 refine Ws (Cd O O) O ?_
 refine Wv O O (Ws (Qq O) O (Ws (Qh υ209 O ς31 O O O) O (Wt (fun hS => Qg ι31 O ((bk_3.keep hS).cell O)) O (Ws (Qh υ135 O ς3 O O O) O (Wt (fun hS => Qg ι3 O ((b4_3.keep hS).cell O)) O (Wv O O ?_))))))
 refine Ws (Cd O O) O ?_
 refine Ws (Qs υ31 ς33 O O (row_3.sl.ne (by omega))) O (Wt (fun hS => Qg ι33 O ((row_3.keep hS).sl.getC (by omega) (by omega))) O (Wv O O (Hq (Qi κ48 O (cplx_Mul _ _ _ _ _)) O ?_)))
 rintro _ w4 ⟨p4, q4, rfl, F4, c4⟩
 have z4 := c4.size
 have RD_4 := (Ch.refl (No) w3).and c4
 refine ⟨RD_4, ?_⟩
 refine Ws (Qs υ31 ς33 O O (row_3.sl.ne (by omega))) O (Cj ?_)
 have row_4 := row_3.keep c4
 refine Oz (Rj ς33 O O (by omega) row_4) O ?_
 rintro _ w5 ⟨o5, c5, z5⟩
 have y5 := o5.lt
 refine Qf (Ca (Rp O (Kx ?_)))
 have row9 := o5; rw [show ((d : Int) + (i : Int)).toNat = d + i by omega] at row9
 have bk_4 := bk_3.keep c4
 have bk_5 := bk_4.to c5
 have fil_4 := fil.keep (c1.trans (c2.trans (c3.trans c4)))
 have fil_5 := fil_4.to c5
 have CH_4 := (Ch.refl (MS m r) w).and (c1.trans (c2.trans (c3.trans c4)))
 have CH_5 : Ch (MS m r) w w5 := CH_4.then c5
 exact ⟨O, _, _, ⟨bk_5, row9, ne, fil_5⟩, (by rw [map_getD, List.map_set, F4, F2, show ((d : Int) + (i : Int)).toNat = d + i by omega]), CH_5⟩
theorem actG_times (m r : Nat) (b : Bld) (N : Nat) (SA : Option Addr) (sc : Nat) (bs : ByteArray) (CA : Option Addr) (ac dn st at_ : Int) (F : Fil) (xs : List CB) (w : World) (mr : MacG w m r b N SA sc bs CA ac dn st at_ F xs) (hN : N ≤ 1000000) (op co nn kk : Int) (d sr ju i : Nat) (hd : d + i < N) (hs : sr + i < N) :
  Calls prog 213 #[Kh m, .agg #[Kg op, Kg d, Kg sr, Kg ju, Kg co, Kg nn, Kg kk], Kg i] w (Ret (fun v w' => v = .tuple #[] ∧ ∃ F ys, MacG w' m r b N SA sc bs CA ac dn st at_ F ys ∧ ys.map cx = (xs.map cx).set (d + i) (mulC ((xs.map cx).getD (d + i) z0) ((xs.map cx).getD (sr + i) z0)) ∧ Ch (MS m r) w w')) := by
 obtain ⟨bk, row, ne, fil⟩ := id mr
 have yr := Ow.lt row; have ym := bk.lt; have fn1 := fil.n1; have fn2 := fil.n2; have fy := Ow.lt fil.ow
 refine Ku func213 O ntmps213 O (Kb (Km (Cp O) O ?_))
 intro p1 w1 b4 c1 e1 z1
 refine Ka (Kj 30 [0, 2, 4, 6, 8, 10, 12, 14, 16, 18, 20, 22, 24, 26, 28, 30, 32, 34, 36, 38, 40, 42, 44, 46, 48, 50, 52, 54, 57, 58] (No) ?_)
 intro w2 c2 z2
 have bk_2 := bk.keep (c1.trans c2)
 have row_2 := row.keep (c1.trans c2)
 have b4_2 := b4.keep c2
 refine Wv O O (Ws (Qq O) O (Ws (Qh υ209 O ς31 O O O) O (Wt (fun hS => Qg ι31 O ((bk_2.keep hS).cell O)) O (Ws (Qh υ135 O ς3 O O O) O (Wt (fun hS => Qg ι3 O ((b4_2.keep hS).cell O)) O (Wv O O ?_))))))
 refine Ws (Cd O O) O ?_
 refine Wv O O (Ws (Qq O) O (Ws (Qh υ209 O ς31 O O O) O (Wt (fun hS => Qg ι31 O ((bk_2.keep hS).cell O)) O (Ws (Qh υ135 O ς3 O O O) O (Wt (fun hS => Qg ι3 O ((b4_2.keep hS).cell O)) O (Wv O O ?_))))))
 refine Ws (Cd O O) O ?_
 refine Ws (Qs υ31 ς33 O O (row_2.sl.ne (by omega))) O (Wt (fun hS => Qg ι33 O ((row_2.keep hS).sl.getC (by omega) (by omega))) O (Wv O O (Ws (Qq O) O (Ws (Qh υ209 O ς31 O O O) O (Wt (fun hS => Qg ι31 O ((bk_2.keep hS).cell O)) O (Ws (Qh υ135 O ς3 O O O) O (Wt (fun hS => Qg ι3 O ((b4_2.keep hS).cell O)) O ?_)))))))
 refine Wv O O ?_
 refine Ws (Cd O O) O ?_
 refine Ws (Qs υ31 ς33 O O (row_2.sl.ne (by omega))) O (Wt (fun hS => Qg ι33 O ((row_2.keep hS).sl.getC (by omega) (by omega))) O (Hq (Qi κ48 O (cplx_Mul _ _ _ _ _)) O ?_))
 rintro _ w3 ⟨p3, q3, rfl, F3, c3⟩
 have z3 := c3.size
 have RD_3 := (Ch.refl (No) w2).and c3
 refine ⟨RD_3, ?_⟩
 refine Ws (Qs υ31 ς33 O O (row_2.sl.ne (by omega))) O (Cj ?_)
 have row_3 := row_2.keep c3
 refine Oz (Rj ς33 O O (by omega) row_3) O ?_
 rintro _ w4 ⟨o4, c4, z4⟩
 have y4 := o4.lt
 refine Qf (Ca (Rp O (Kx ?_)))
 have row9 := o4; rw [show ((d : Int) + (i : Int)).toNat = d + i by omega] at row9
 have bk_3 := bk_2.keep c3
 have bk_4 := bk_3.to c4
 have fil_3 := fil.keep (c1.trans (c2.trans c3))
 have fil_4 := fil_3.to c4
 have CH_3 := (Ch.refl (MS m r) w).and (c1.trans (c2.trans c3))
 have CH_4 : Ch (MS m r) w w4 := CH_3.then c4
 exact ⟨O, _, _, ⟨bk_4, row9, ne, fil_4⟩, (by rw [map_getD, map_getD, List.map_set, F3, show ((d : Int) + (i : Int)).toNat = d + i by omega, show ((sr : Int) + (i : Int)).toNat = sr + i by omega]), CH_4⟩
theorem actG_conj (m r : Nat) (b : Bld) (N : Nat) (SA : Option Addr) (sc : Nat) (bs : ByteArray) (CA : Option Addr) (ac dn st at_ : Int) (F : Fil) (xs : List CB) (w : World) (mr : MacG w m r b N SA sc bs CA ac dn st at_ F xs) (hN : N ≤ 1000000) (op co nn kk : Int) (d sr ju i : Nat) (hd : d + i < N) :
  Calls prog 214 #[Kh m, .agg #[Kg op, Kg d, Kg sr, Kg ju, Kg co, Kg nn, Kg kk], Kg i] w (Ret (fun v w' => v = .tuple #[] ∧ ∃ F ys, MacG w' m r b N SA sc bs CA ac dn st at_ F ys ∧ ys.map cx = (xs.map cx).set (d + i) (conjC ((xs.map cx).getD (d + i) z0)) ∧ Ch (MS m r) w w')) := by
 obtain ⟨bk, row, ne, fil⟩ := id mr
 have yr := Ow.lt row; have ym := bk.lt; have fn1 := fil.n1; have fn2 := fil.n2; have fy := Ow.lt fil.ow
 refine Ku func214 O ntmps214 O (Kb (Km (Cp O) O ?_))
 intro p1 w1 b4 c1 e1 z1
 refine Ka (Kj 20 [0, 2, 4, 6, 8, 10, 12, 14, 16, 18, 20, 22, 24, 26, 28, 30, 32, 34, 37, 38] (No) ?_)
 intro w2 c2 z2
 have bk_2 := bk.keep (c1.trans c2)
 have row_2 := row.keep (c1.trans c2)
 have b4_2 := b4.keep c2
 refine Wv O O (Ws (Qq O) O (Ws (Qh υ209 O ς31 O O O) O (Wt (fun hS => Qg ι31 O ((bk_2.keep hS).cell O)) O (Ws (Qh υ135 O ς3 O O O) O (Wt (fun hS => Qg ι3 O ((b4_2.keep hS).cell O)) O (Wv O O ?_))))))
 refine Ws (Cd O O) O ?_
 refine Wv O O (Ws (Qq O) O (Ws (Qh υ209 O ς31 O O O) O (Wt (fun hS => Qg ι31 O ((bk_2.keep hS).cell O)) O (Ws (Qh υ135 O ς3 O O O) O (Wt (fun hS => Qg ι3 O ((b4_2.keep hS).cell O)) O (Wv O O ?_))))))
 refine Ws (Cd O O) O ?_
 refine Ws (Qs υ31 ς33 O O (row_2.sl.ne (by omega))) O (Wt (fun hS => Qg ι33 O ((row_2.keep hS).sl.getC (by omega) (by omega))) O (Hq (Qi κ78 O (cplx_Conj _ _ _)) O ?_))
 rintro _ w3 ⟨p3, q3, rfl, F3, c3⟩
 have z3 := c3.size
 have RD_3 := (Ch.refl (No) w2).and c3
 refine ⟨RD_3, ?_⟩
 refine Ws (Qs υ31 ς33 O O (row_2.sl.ne (by omega))) O (Cj ?_)
 have row_3 := row_2.keep c3
 refine Oz (Rj ς33 O O (by omega) row_3) O ?_
 rintro _ w4 ⟨o4, c4, z4⟩
 have y4 := o4.lt
 refine Qf (Ca (Rp O (Kx ?_)))
 have row9 := o4; rw [show ((d : Int) + (i : Int)).toNat = d + i by omega] at row9
 have bk_3 := bk_2.keep c3
 have bk_4 := bk_3.to c4
 have fil_3 := fil.keep (c1.trans (c2.trans c3))
 have fil_4 := fil_3.to c4
 have CH_3 := (Ch.refl (MS m r) w).and (c1.trans (c2.trans c3))
 have CH_4 : Ch (MS m r) w w4 := CH_3.then c4
 exact ⟨O, _, _, ⟨bk_4, row9, ne, fil_4⟩, (by rw [map_getD, List.map_set, F3, show ((d : Int) + (i : Int)).toNat = d + i by omega]), CH_4⟩
theorem actG_over (m r : Nat) (b : Bld) (N : Nat) (SA : Option Addr) (sc : Nat) (bs : ByteArray) (CA : Option Addr) (ac dn st at_ : Int) (F : Fil) (xs : List CB) (w : World) (mr : MacG w m r b N SA sc bs CA ac dn st at_ F xs) (hN : N ≤ 1000000) (op co nn kk : Int) (d sr ju i : Nat) (hd : d + i < N) :
  Calls prog 215 #[Kh m, .agg #[Kg op, Kg d, Kg sr, Kg ju, Kg co, Kg nn, Kg kk], Kg i] w (Ret (fun v w' => v = .tuple #[] ∧ ∃ F ys, MacG w' m r b N SA sc bs CA ac dn st at_ F ys ∧ ys.map cx = (xs.map cx).set (d + i) (overC ((xs.map cx).getD (d + i) z0) nn) ∧ Ch (MS m r) w w')) := by
 obtain ⟨bk, row, ne, fil⟩ := id mr
 have yr := Ow.lt row; have ym := bk.lt; have fn1 := fil.n1; have fn2 := fil.n2; have fy := Ow.lt fil.ow
 refine Ku func215 O ntmps215 O (Kb (Km (Cp O) O ?_))
 intro p1 w1 b4 c1 e1 z1
 refine Ka (Kj 22 [0, 2, 4, 6, 8, 10, 12, 14, 16, 18, 20, 22, 24, 26, 28, 30, 32, 34, 36, 38, 41, 42] (No) ?_)
 intro w2 c2 z2
 have bk_2 := bk.keep (c1.trans c2)
 have row_2 := row.keep (c1.trans c2)
 have b4_2 := b4.keep c2
 refine Wv O O (Ws (Qq O) O (Ws (Qh υ209 O ς31 O O O) O (Wt (fun hS => Qg ι31 O ((bk_2.keep hS).cell O)) O (Ws (Qh υ135 O ς3 O O O) O (Wt (fun hS => Qg ι3 O ((b4_2.keep hS).cell O)) O (Wv O O ?_))))))
 refine Ws (Cd O O) O ?_
 refine Wv O O (Ws (Qq O) O (Ws (Qh υ209 O ς31 O O O) O (Wt (fun hS => Qg ι31 O ((bk_2.keep hS).cell O)) O (Ws (Qh υ135 O ς3 O O O) O (Wt (fun hS => Qg ι3 O ((b4_2.keep hS).cell O)) O (Wv O O ?_))))))
 refine Ws (Cd O O) O ?_
 refine Ws (Qs υ31 ς33 O O (row_2.sl.ne (by omega))) O (Wt (fun hS => Qg ι33 O ((row_2.keep hS).sl.getC (by omega) (by omega))) O (Ws (Qh υ135 O ς3 O O O) O (Wt (fun hS => Qg ι3 O ((b4_2.keep hS).cell O)) O (Hq (Qi call136 O (cplx_Over _ _ _ _)) O ?_))))
 rintro _ w3 ⟨p3, q3, rfl, F3, c3⟩
 have z3 := c3.size
 have RD_3 := (Ch.refl (No) w2).and c3
 refine ⟨RD_3, ?_⟩
 refine Ws (Qs υ31 ς33 O O (row_2.sl.ne (by omega))) O (Cj ?_)
 have row_3 := row_2.keep c3
 refine Oz (Rj ς33 O O (by omega) row_3) O ?_
 rintro _ w4 ⟨o4, c4, z4⟩
 have y4 := o4.lt
 refine Qf (Ca (Rp O (Kx ?_)))
 have row9 := o4; rw [show ((d : Int) + (i : Int)).toNat = d + i by omega] at row9
 have bk_3 := bk_2.keep c3
 have bk_4 := bk_3.to c4
 have fil_3 := fil.keep (c1.trans (c2.trans c3))
 have fil_4 := fil_3.to c4
 have CH_3 := (Ch.refl (MS m r) w).and (c1.trans (c2.trans c3))
 have CH_4 : Ch (MS m r) w w4 := CH_3.then c4
 exact ⟨O, _, _, ⟨bk_4, row9, ne, fil_4⟩, (by rw [map_getD, List.map_set, F3, show ((d : Int) + (i : Int)).toNat = d + i by omega]), CH_4⟩
theorem actG_fly (m r : Nat) (b : Bld) (N : Nat) (SA : Option Addr) (sc : Nat) (bs : ByteArray) (CA : Option Addr) (ac dn st at_ : Int) (F : Fil) (xs : List CB) (w : World) (mr : MacG w m r b N SA sc bs CA ac dn st at_ F xs) (hN : N ≤ 1000000) (op sr co kk : Int) (d ju nn i : Nat) (hnn : 2 ≤ nn ∧ nn ≤ 5) (hb : ∀ q, q < nn → d + i + q * ju < N) :
  Calls prog 209 #[Kh m, .agg #[Kg op, Kg d, Kg sr, Kg ju, Kg co, Kg nn, Kg kk], Kg i] w (Ret (fun v w' => v = .tuple #[] ∧ ∃ F ys, MacG w' m r b N SA sc bs CA ac dn st at_ F ys ∧ ys.map cx = putN (xs.map cx) (d + i) ju (flyG ((List.range nn).map fun q => (xs.map cx).getD (d + i + q * ju) z0)) nn ∧ Ch (MS m r) w w')) := by
 obtain ⟨bk, row, ne, fil⟩ := id mr
 have yr := Ow.lt row; have ym := bk.lt; have fn1 := fil.n1; have fn2 := fil.n2; have fy := Ow.lt fil.ow
 have hb0 := hb 0 (by omega); rw [Nat.zero_mul] at hb0
 refine Ku func209 O ntmps209 O (Kb (Km (Cp O) O ?_))
 intro p1 w1 b4 c1 e1 z1
 refine Wy (Om (Qh υ135 O ς3 O O O) O (Om (Qg ι3 O (b4.cell O)) O (Oq (Wn υ31 inf33w83 O O (by omega) (by omega) (by omega)) O ?_)))
 rintro _ w2 ⟨p2, rfl, o2, c2, e2, z2⟩
 refine Ww O O (Wz (Kb (Wu O O (Om (Cs υ31 O) O ?_))))
 refine Wu O O (Ka (Qt ?_))
 have b4_2 := b4.keep c2
 have bk_2 := bk.keep (c1.trans c2)
 have fil_2 := fil.keep (c1.trans c2)
 have row_2 := row.keep (c1.trans c2)
 have CH_2 := (Ch.refl (MS m r) w).and (c1.trans c2)
 refine Kf (σ := Nat) (fun j => [(0, Kh m), (2, Kg i), (4, Kh p1), (6, .slice (Ki p2) nn nn), (16, Kg nn), (17, Kg j)]) (fun j w' => j ≤ nn ∧ w2.heap.size ≤ w'.heap.size ∧ Bk w' p1 #[Kg op, Kg d, Kg sr, Kg ju, Kg co, Kg nn, Kg kk] 135 ∧ Bk w' m (macG b N SA sc bs CA ac dn st at_ F) 209 ∧ FilR w' m r F ∧ CR 33 w' r CA N N xs ∧ CR 33 w' (p2 + 1) (Ki p2) nn nn (rowF nn (fun q => xs.getD (d + i + q * ju) (0, 0)) j) ∧ Ch (MS m r) w w') (fun j => nn - j) 0 ?_ ?_
 · exact ⟨(by omega), (Nat.le_refl _), b4_2, bk_2, fil_2, row_2, (by rw [rowF_zero]; exact o2), CH_2⟩
 rintro j w3 ⟨hj, hsz3, b4_3, bk_3, fil_3, row_3, af_3, CH_3⟩
 have e0 : ((j * ju : Nat) : Int) = (j : Int) * (ju : Int) := by push_cast; rfl
 have hbj := hb j
 refine Kb (Om (Co O O) O (Wz (Qj O (fun hc1 => ?_) (fun hc1 => ?_))))
 ·
  refine Qn (Qa (Qe (Qt (Kb (Wu O O (Ww O O ?_))))))
  refine Ka (Kj 18 [0, 2, 4, 6, 8, 10, 12, 14, 16, 18, 20, 22, 24, 26, 28, 30, 32, 34] (No) ?_)
  intro w4 c4 z4
  have bk_4 := bk_3.keep c4
  have row_4 := row_3.keep c4
  have b4_4 := b4_3.keep c4
  have af_4 := af_3.keep c4
  refine Wv O O (Wv O O (Wv O O (Ws (Qq O) O (Ws (Qh υ209 O ς31 O O O) O (Wt (fun hS => Qg ι31 O ((bk_4.keep hS).cell O)) O (Ws (Qh υ135 O ς3 O O O) O (Wt (fun hS => Qg ι3 O ((b4_4.keep hS).cell O)) O ?_)))))))
  refine Wv O O ?_
  refine Ws (Cd O O) O ?_
  refine Wv O O (Ws (Qh υ135 O ς3 O O O) O (Wt (fun hS => Qg ι3 O ((b4_4.keep hS).cell O)) O ?_))
  refine Ws (Cy O O) O ?_
  refine Ws (Cd O O) O ?_
  refine Ws (Qs υ31 ς33 O O (row_4.sl.ne (by omega))) O (Wt (fun hS => Qg ι33 O ((row_4.keep hS).sl.getC (by omega) (by omega))) O (Ws (Qs υ31 ς33 O O (af_4.sl.ne (by omega))) O (Cj (Oz (Rj ς33 O O (by omega) af_4) O ?_))))
  rintro _ w5 ⟨o5, c5, z5⟩
  have y5 := o5.lt
  refine Qf (Ca (Ql (Qa (Qb ?_))))
  refine Om (Cd O O) O ?_
  refine Wu O O (Qf ?_)
  refine Ke (j + 1) ?_
  have b4_5 := b4_4.to c5
  have bk_5 := bk_4.to c5
  have fil_4 := fil_3.keep c4
  have fil_5 := fil_4.to c5
  have row_5 := row_4.to c5
  have CH_4 := CH_3.and c4
  have CH_5 : Ch (MS m r) w w5 := CH_4.then c5
  exact ⟨(by omega), (by omega), b4_5, bk_5, fil_5, row_5, (by have := o5; rw [Int.toNat_natCast, show ((d : Int) + (i : Int) + (j : Int) * (ju : Int)).toNat = d + i + j * ju by omega] at this; rw [← rowF_set (by omega)]; exact this), CH_5⟩
 refine Cn (Qk (Qk (Qy (Qa (Kb (Wu O O ?_))))))
 refine Oq (Qi call250 O (fly_FlyG _ _ _ _ hnn.1 hnn.2 _ _ af_3.sl)) O ?_
 rintro _ w6 ⟨q6, zs6, rfl, F6, sl6, e6, c6⟩
 have z6 := c6.size
 have ej : j = nn := by omega
 rw [ej, rowF_all, List.map_map] at F6
 refine Wu O O (Om (Qu O O) O (Om (Qu O O) O (Ww O O (Ww O O (Wz ?_)))))
 refine Kb (Wu O O (Om (Cr υ28 O) O (Ka (Cc O (Qn ?_)))))
 refine Qa (Kb (Wu O O (Om (Cs υ31 O) O (Wu O O (Ka ?_)))))
 refine Qt ?_
 have b4_6 := b4_3.keep c6
 have bk_6 := bk_3.keep c6
 have fil_6 := fil_3.keep c6
 have row_6 := row_3.keep c6
 have CH_6 := CH_3.and c6
 refine Kf (σ := Nat × List CB) (fun (j, ys) => [(0, Kh m), (2, Kg i), (4, Kh p1), (46, .slice (Ki q6) nn nn), (47, Kg nn), (48, Kg j)]) (fun (j, ys) w' => j ≤ nn ∧ ys.map cx = putN (xs.map cx) (d + i) ju (zs6.map cx) j ∧ w6.heap.size ≤ w'.heap.size ∧ Bk w' p1 #[Kg op, Kg d, Kg sr, Kg ju, Kg co, Kg nn, Kg kk] 135 ∧ Bk w' m (macG b N SA sc bs CA ac dn st at_ F) 209 ∧ FilR w' m r F ∧ CR 33 w' r CA N N ys ∧ SlR (Is q6) w' (Ki q6) nn 1 (zs6.map cxV) ∧ Ch (MS m r) w w') (fun (j, ys) => nn - j) (0, xs) ?_ ?_
 · exact ⟨(by omega), (by rfl), (Nat.le_refl _), b4_6, bk_6, fil_6, row_6, sl6, CH_6⟩
 rintro ⟨j, ys⟩ w7 ⟨hj, hy, hsz7, b4_7, bk_7, fil_7, row_7, sl_7, CH_7⟩
 have e0 : ((j * ju : Nat) : Int) = (j : Int) * (ju : Int) := by push_cast; rfl
 have hbj := hb j
 refine Kb (Om (Co O O) O (Wz (Qj O (fun hc2 => ?_) (fun hc2 => ?_))))
 ·
  refine Qn (Qa (Qe (Qt (Kb (Wu O O (Om (Qs υ31 ς33 O O (sl_7.ne (by omega))) O ?_))))))
  refine Om (Qg ι33 O (sl_7.getC (by omega) (by omega))) O (Ww O O (Ww O O (Ka (Kj 15 [0, 2, 4, 6, 8, 10, 12, 14, 16, 18, 20, 22, 24, 26, 28] (No) ?_))))
  intro w8 c8 z8
  have bk_8 := bk_7.keep c8
  have row_8 := row_7.keep c8
  have b4_8 := b4_7.keep c8
  have sl_8 := sl_7.keep c8
  refine Wv O O (Ws (Qq O) O (Ws (Qh υ209 O ς31 O O O) O (Wt (fun hS => Qg ι31 O ((bk_8.keep hS).cell O)) O (Ws (Qh υ135 O ς3 O O O) O (Wt (fun hS => Qg ι3 O ((b4_8.keep hS).cell O)) O (Wv O O ?_))))))
  refine Ws (Cd O O) O ?_
  refine Wv O O (Ws (Qh υ135 O ς3 O O O) O (Wt (fun hS => Qg ι3 O ((b4_8.keep hS).cell O)) O ?_))
  refine Ws (Cy O O) O ?_
  refine Ws (Cd O O) O ?_
  refine Wv O O (Ws (Qs υ31 ς33 O O (row_8.sl.ne (by omega))) O (Cj (Oz (Rj ς33 O O (by omega) row_8) O ?_)))
  rintro _ w9 ⟨o9, c9, z9⟩
  have y9 := o9.lt
  refine Qf (Ca (Ql (Qa (Qb ?_))))
  refine Om (Cd O O) O ?_
  refine Wu O O (Qf ?_)
  refine Ke (j + 1, ys.set (d + i + j * ju) (zs6.getD j (0, 0))) ?_
  have b4_9 := b4_8.to c9
  have bk_9 := bk_8.to c9
  have fil_8 := fil_7.keep c8
  have fil_9 := fil_8.to c9
  have sl_9 := sl_8.to c9
  have CH_8 := CH_7.and c8
  have CH_9 : Ch (MS m r) w w9 := CH_8.then c9
  exact ⟨(by omega), (by rw [List.map_set, hy]; show _ = (putN _ _ _ _ _).set _ _; rw [map_getD]), (by omega), b4_9, bk_9, fil_9, (by have := o9; rw [Int.toNat_natCast, show ((d : Int) + (i : Int) + (j : Int) * (ju : Int)).toNat = d + i + j * ju by omega] at this; exact this), sl_9, CH_9⟩
 refine Cn (Qk (Qk (Qy (Rp O (Kx ?_)))))
 have e : j = nn := by omega
 rw [e, F6] at hy
 exact ⟨O, _, _, ⟨bk_7, row_7, ne, fil_7⟩, by rw [hy]; simp only [map_getD]; rfl, CH_7⟩
theorem m_fillHit (m r : Nat) (b : Bld) (N : Nat) (SA : Option Addr) (sc : Nat) (bs : ByteArray) (CA : Option Addr) (ac dn st at_ : Int) (F : Fil) (xs : List CB) (w : World) (mr : MacG w m r b N SA sc bs CA ac dn st at_ F xs) (s : Stp) (hsm : SmS s) (e : F.s = s) :
  Calls prog 253 #[Kh m, stpV s] w (Ret (fun v w' => v = .slice F.A F.l F.c ∧ Ch No w w')) := by
 obtain ⟨bk, row, ne, fil⟩ := id mr
 have yr := Ow.lt row; have ym := bk.lt; have fn1 := fil.n1; have fn2 := fil.n2; have fy := Ow.lt fil.ow
 refine Ku func253 O ntmps253 O (Kb (Km (Cp O) O ?_))
 intro p1 w1 b3 c1 e1 z1
 refine Ww O O (Wz (Qe (Kj 6 [0, 2, 4, 6, 8, 10] (No) ?_)))
 intro w2 c2 z2
 have bk_2 := bk.keep (c1.trans c2)
 have row_2 := row.keep (c1.trans c2)
 have b3_2 := b3.keep c2
 refine Wv O O (Ws (Qq O) O (Ws (Qh υ209 O ς135 O O O) O (Wt (fun hS => Qz ι135 ς135 O O ((bk_2.keep hS).part 7 O)) O (Wt (fun hS => Qz ι135 ς135 O O ((b3_2.keep hS).all' O)) O (Ws (Rn.stepNeF O O fil.sm hsm e) O (Cj (Qf ?_)))))))
 refine Ca (Qa (Cc O (Qn (Qa (Kb (Wu O O ?_))))))
 refine Om (Qq O) O (Om (Qh υ209 O ς31 O O O) O (Om (Qg ι31 O (bk_2.cell O)) O (Ww O O (Ka (Qp (Qx O O ?_))))))
 refine Kx ?_
 have CH_2 := (c1.trans c2)
 exact ⟨O, CH_2⟩
set_option maxHeartbeats 1000000 in
theorem m_fillMiss (m r : Nat) (b : Bld) (N : Nat) (SA : Option Addr) (sc : Nat) (bs : ByteArray) (CA : Option Addr) (ac dn st at_ : Int) (F : Fil) (xs : List CB) (w : World) (mr : MacG w m r b N SA sc bs CA ac dn st at_ F xs) (d sr ju co nn kk : Nat) (hsm : SmS ⟨8, d, sr, ju, co, nn, kk⟩) (e : ¬ F.s = ⟨8, d, sr, ju, co, nn, kk⟩) (hn1 : 1 ≤ nn) (hco : 2 * nn ≤ co + 1) (hco2 : co ≤ 16384) :
  Calls prog 253 #[Kh m, .agg #[Kg 8, Kg d, Kg sr, Kg ju, Kg co, Kg nn, Kg kk]] w (Ret (fun v w' => ∃ F', v = .slice F'.A F'.l F'.c ∧ MacG w' m r b N SA sc bs CA ac dn st at_ F' xs ∧ F'.l = co ∧ F'.zs.map cx = otherL nn co ∧ Ch (Is m) w w')) := by
 obtain ⟨bk, row, ne, fil⟩ := id mr
 have yr := Ow.lt row; have ym := bk.lt; have fn1 := fil.n1; have fn2 := fil.n2; have fy := Ow.lt fil.ow
 refine Ku func253 O ntmps253 O (Kb (Km (Cp O) O ?_))
 intro p1 w1 b3 c1 e1 z1
 refine Ww O O (Wz (Qe (Kj 6 [0, 2, 4, 6, 8, 10] (No) ?_)))
 intro w2 c2 z2
 have bk_2 := bk.keep (c1.trans c2)
 have row_2 := row.keep (c1.trans c2)
 have b3_2 := b3.keep c2
 refine Wv O O (Ws (Qq O) O (Ws (Qh υ209 O ς135 O O O) O (Wt (fun hS => Qz ι135 ς135 O O ((bk_2.keep hS).part 7 O)) O (Wt (fun hS => Qz ι135 ς135 O O ((b3_2.keep hS).all' O)) O (Ws (Rn.stepNeT (t := ⟨8, d, sr, ju, co, nn, kk⟩) O O fil.sm hsm e) O (Cj (Qf ?_)))))))
 refine Ca (Qa (Rd O (Kb (Wu O O (Om (Qh υ135 O ς3 O O O) O (Om (Qg ι3 O (b3_2.cell O)) O ?_))))))
 refine Om (Qh υ135 O ς3 O O O) O (Om (Qg ι3 O (b3_2.cell O)) O (Oq (Qi call285 O (chirp_Other nn co (by omega) (by omega) (by omega) _)) O ?_))
 rintro _ w3 ⟨q3, zs3, rfl, of3, hz3, eq3, c3⟩
 have yof3 := Ow.lt of3
 have z3 := c3.size
 refine Wu O O (Om (Qu O O) O (Om (Qu O O) O (Om (Qq O) O (Om (Qh υ209 O ς31 O O O) O ?_))))
 have bk_3 := bk_2.keep c3
 refine Ks (Rk ς31 O O O O bk_3 O) O ?_
 intro w4 c4 z4 bk_4
 refine Ka (Qb (Wu O O ?_))
 have b3_3 := b3_2.keep c3
 have b3_4 := b3_3.to c4
 refine Om (Qz ι135 ς135 O O (b3_4.all' O)) O (Om (Qq O) O (Om (Qh υ209 O ς135 O O O) O (Ks (Cl ς135 O O O O bk_4) O ?_)))
 intro w5 c5 z5 bk_5
 refine Wy (Wu O O (Om (Qq O) O (Om (Qh υ209 O ς31 O O O) O (Om (Qg ι31 O (bk_5.cell O)) O ?_))))
 refine Ww O O (Ka (Qp (Qx O O (Kx ?_))))
 have row_3 := row_2.keep c3
 have row_4 := row_3.to c4
 have row_5 := row_4.to c5
 have of_4 := of3.to c4
 have of_5 := of_4.to c5
 have CH_3 := (Ch.refl (Is m) w).and (c1.trans (c2.trans c3))
 have CH_4 : Ch (Is m) w w4 := CH_3.then c4
 have CH_5 : Ch (Is m) w w5 := CH_4.then c5
 exact ⟨⟨some ⟨q3, 0, none⟩, co, co, ⟨8, d, sr, ju, co, nn, kk⟩, q3 + 1, zs3⟩, O, ⟨bk_5, row_5, ne, ⟨of_5, by show ¬ q3 + 1 = r; omega, by show ¬ q3 + 1 = m + 1; omega, hsm, fun _ => ⟨O, hz3⟩⟩⟩, O, hz3, CH_5⟩
theorem m_fillG (m r : Nat) (b : Bld) (N : Nat) (SA : Option Addr) (sc : Nat) (bs : ByteArray) (CA : Option Addr) (ac dn st at_ : Int) (F : Fil) (xs : List CB) (w : World) (mr : MacG w m r b N SA sc bs CA ac dn st at_ F xs) (d sr ju co nn kk : Nat) (hsm : SmS ⟨8, d, sr, ju, co, nn, kk⟩) (hn1 : 1 ≤ nn) (hco : 2 * nn ≤ co + 1) (hco2 : co ≤ 16384) :
  Calls prog 253 #[Kh m, stpV ⟨8, d, sr, ju, co, nn, kk⟩] w (Ret fun v w' => ∃ F', v = .slice F'.A F'.l F'.c ∧ MacG w' m r b N SA sc bs CA ac dn st at_ F' xs ∧ F'.l = co ∧ F'.zs.map cx = otherL nn co ∧ Ch (Is m) w w') := by
 by_cases e : F.s = ⟨8, d, sr, ju, co, nn, kk⟩
 ·
  refine (m_fillHit m r b N SA sc bs CA ac dn st at_ F xs w mr ⟨8, d, sr, ju, co, nn, kk⟩ hsm e).mono ?_
  rintro e' w' ⟨v, rfl, rfl, c⟩
  have hv := mr.fil.val (by rw [e])
  rw [e] at hv
  exact ⟨_, O, F, O, mr.keep c, hv.1, hv.2, c.more (fun q _ hq => hq.elim)⟩
 · exact m_fillMiss m r b N SA sc bs CA ac dn st at_ F xs w mr d sr ju co nn kk hsm e hn1 hco hco2
theorem actG_fill (m r : Nat) (b : Bld) (N : Nat) (SA : Option Addr) (sc : Nat) (bs : ByteArray) (CA : Option Addr) (ac dn st at_ : Int) (F : Fil) (xs : List CB) (w : World) (mr : MacG w m r b N SA sc bs CA ac dn st at_ F xs) (hN : N ≤ 1000000) (d sr ju co nn kk i : Nat) (hd : d + i < N) (hi : i < co) (hsm : SmS ⟨8, d, sr, ju, co, nn, kk⟩) (hn1 : 1 ≤ nn := by omega) (hco : 2 * nn ≤ co + 1 := by omega) (hco2 : co ≤ 16384 := by omega) :
  Calls prog 212 #[Kh m, .agg #[Kg 8, Kg d, Kg sr, Kg ju, Kg co, Kg nn, Kg kk], Kg i] w (Ret (fun v w' => v = .tuple #[] ∧ ∃ F ys, MacG w' m r b N SA sc bs CA ac dn st at_ F ys ∧ ys.map cx = (xs.map cx).set (d + i) (otherF nn co i) ∧ Ch (MS m r) w w')) := by
 obtain ⟨bk, row, ne, fil⟩ := id mr
 have yr := Ow.lt row; have ym := bk.lt; have fn1 := fil.n1; have fn2 := fil.n2; have fy := Ow.lt fil.ow
 refine Ku func212 O ntmps212 O (Kb (Km (Cp O) O ?_))
 intro p1 w1 b4 c1 e1 z1
 refine Ka (Wj 15 (.mv 0 (.mv 1 (.mv 2 (.mv 4 (.mv 5 (.mv 6 (.mv 7 (.mv 8 (.mv 9 (.mv 11 (.two 3 (.wk 10 (.wk 12 (.wk 13 (.mv 14 .nil)))) 10 (.two 3 (.wk 12 (.wk 13 (.mv 14 .nil))) 12 (.two 3 (.wk 13 (.mv 14 .nil)) 13 (.wk 3 (.mv 14 .nil))))))))))))))) (fun w1 w' => Ch (Is m) w1 w') mixed (by kernel_rfl) (fun _ _ => Ch.refl _ _) ?_)
 intro w2 D2
 have c2 := Ch.of_drew D2; have z2 := c2.size
 have bk_2 := bk.keep (c1.trans c2)
 have row_2 := row.keep (c1.trans c2)
 have b4_2 := b4.keep c2
 refine Rc (fun w' hS => Qc O) O O O O (Rc (fun w' hS => Qq O) O O O O (Rc (fun w' hS => Qh υ209 O ς31 O O O) O O O O (Rc (fun w' hS => Qh υ135 O ς3 O O O) O O O O (Rc (fun w' hS => Qg ι3 O ((b4_2.to hS).cell O)) O O O O (Rc (fun w' hS => Qc O) O O O O ?_)))))
 refine Rc (fun w' hS => Cd O O (by rw [IntKind.wrap_i64]; omega)) O O O O ?_
 refine Rc (fun w' hS => Qc O) O O O O (Rc (fun w' hS => Qz ι135 ς135 O O ((b4_2.to hS).all' O)) O O O O (Rc (fun w' hS => Qc O) O O O O (Wl ?_ ?_)))
 ·
  refine Ru (Qg ι31 O (bk_2.cell O)) O O O O (Ch.refl (Is m) w2) ?_
  have fil_2 := fil.keep (c1.trans c2)
  refine Rs (Qi call253 O (m_fillG _ _ _ _ _ _ _ _ _ _ _ _ _ _ _ ⟨bk_2, row_2, ne, fil_2⟩ d sr ju co nn kk hsm hn1 hco hco2)) O O O O ?_
  rintro _ w3 ⟨F3, rfl, mg3, hl3, hz3, c3⟩
  obtain ⟨bk3, row3, -, fil3⟩ := id mg3
  have fo3 := fil3.ow; rw [hl3] at fo3
  have fm1 := fil3.n1; have fm2 := fil3.n2; have fm3 := Ow.lt fo3
  have z3 := c3.size
  have RD_3 : Ch (Is m) w2 w3 := (Ch.refl (Is m) w2).then c3
  refine ⟨RD_3, ?_⟩
  refine Ru (Qs υ31 ς33 O O (fo3.sl.ne (by omega))) O O O O RD_3 (Ru (Qg ι33 O (fo3.sl.getC (by omega) (by omega))) O O O O RD_3 (Rc (fun w' hS => Qs υ31 ς33 O O (row_2.sl.ne (by omega))) O O O O (Rr (Oz (Rj ς33 O O (by omega) row3) O ?_))))
  rintro _ w4 ⟨o4, c4, z4⟩
  have y4 := o4.lt
  refine Qf (Ca (Rp O (Kx ?_)))
  have row9 := o4; rw [show ((d : Int) + (i : Int)).toNat = d + i by omega] at row9
  have bk_4 := bk3.to c4
  have fil_4 := fil3.to c4
  have CH_2 := (Ch.refl (MS m r) w).and (c1.trans c2)
  have CH_3 : Ch (MS m r) w w3 := CH_2.then c3
  have CH_4 : Ch (MS m r) w w4 := CH_3.then c4
  exact ⟨O, _, _, ⟨bk_4, row9, ne, fil_4⟩, (by rw [List.map_set]; show List.set _ _ (cx ((F3.zs.getD ((i : Int).toNat) (0, 0)))) = _; rw [← map_getD, hz3, Int.toNat_natCast, otherL_getD hi]), CH_4⟩
 have fil_2 := fil.keep (c1.trans c2)
 refine Rs (Qi call253 O (m_fillG _ _ _ _ _ _ _ _ _ _ _ _ _ _ _ ⟨bk_2, row_2, ne, fil_2⟩ d sr ju co nn kk hsm hn1 hco hco2)) O O O O ?_
 rintro _ w5 ⟨F5, rfl, mg5, hl5, hz5, c5⟩
 obtain ⟨bk5, row5, -, fil5⟩ := id mg5
 have fo5 := fil5.ow; rw [hl5] at fo5
 have fm1 := fil5.n1; have fm2 := fil5.n2; have fm3 := Ow.lt fo5
 have z5 := c5.size
 have RD_5 : Ch (Is m) w2 w5 := (Ch.refl (Is m) w2).then c5
 refine ⟨RD_5, ?_⟩
 refine Wl ?_ ?_
 ·
  refine Ru (Qg ι31 O (bk5.cell O)) O O O O RD_5 (Ru (Qs υ31 ς33 O O (fo5.sl.ne (by omega))) O O O O RD_5 (Ru (Qg ι33 O (fo5.sl.getC (by omega) (by omega))) O O O O RD_5 (Rc (fun w' hS => Qs υ31 ς33 O O (row_2.sl.ne (by omega))) O O O O (Rr (Oz (Rj ς33 O O (by omega) row5) O ?_)))))
  rintro _ w6 ⟨o6, c6, z6⟩
  have y6 := o6.lt
  refine Qf (Ca (Rp O (Kx ?_)))
  have row9 := o6; rw [show ((d : Int) + (i : Int)).toNat = d + i by omega] at row9
  have bk_6 := bk5.to c6
  have fil_6 := fil5.to c6
  have CH_2 := (Ch.refl (MS m r) w).and (c1.trans c2)
  have CH_5 : Ch (MS m r) w w5 := CH_2.then c5
  have CH_6 : Ch (MS m r) w w6 := CH_5.then c6
  exact ⟨O, _, _, ⟨bk_6, row9, ne, fil_6⟩, (by rw [List.map_set]; show List.set _ _ (cx ((F5.zs.getD ((i : Int).toNat) (0, 0)))) = _; rw [← map_getD, hz5, Int.toNat_natCast, otherL_getD hi]), CH_6⟩
 refine Ru (Qs υ31 ς33 O O (fo5.sl.ne (by omega))) O O O O RD_5 (Wl ?_ ?_)
 ·
  refine Ru (Qg ι31 O (bk5.cell O)) O O O O RD_5 (Ru (Qg ι33 O (fo5.sl.getC (by omega) (by omega))) O O O O RD_5 (Rc (fun w' hS => Qs υ31 ς33 O O (row_2.sl.ne (by omega))) O O O O (Rr (Oz (Rj ς33 O O (by omega) row5) O ?_))))
  rintro _ w7 ⟨o7, c7, z7⟩
  have y7 := o7.lt
  refine Qf (Ca (Rp O (Kx ?_)))
  have row9 := o7; rw [show ((d : Int) + (i : Int)).toNat = d + i by omega] at row9
  have bk_7 := bk5.to c7
  have fil_7 := fil5.to c7
  have CH_2 := (Ch.refl (MS m r) w).and (c1.trans c2)
  have CH_5 : Ch (MS m r) w w5 := CH_2.then c5
  have CH_7 : Ch (MS m r) w w7 := CH_5.then c7
  exact ⟨O, _, _, ⟨bk_7, row9, ne, fil_7⟩, (by rw [List.map_set]; show List.set _ _ (cx ((F5.zs.getD ((i : Int).toNat) (0, 0)))) = _; rw [← map_getD, hz5, Int.toNat_natCast, otherL_getD hi]), CH_7⟩
 refine Ru (Qg ι33 O (fo5.sl.getC (by omega) (by omega))) O O O O RD_5 (Ru (Qg ι31 O (bk5.cell O)) O O O O RD_5 (Rc (fun w' hS => Qs υ31 ς33 O O (row_2.sl.ne (by omega))) O O O O (Rr (Oz (Rj ς33 O O (by omega) row5) O ?_))))
 rintro _ w8 ⟨o8, c8, z8⟩
 have y8 := o8.lt
 refine Qf (Ca (Rp O (Kx ?_)))
 have row9 := o8; rw [show ((d : Int) + (i : Int)).toNat = d + i by omega] at row9
 have bk_8 := bk5.to c8
 have fil_8 := fil5.to c8
 have CH_2 := (Ch.refl (MS m r) w).and (c1.trans c2)
 have CH_5 : Ch (MS m r) w w5 := CH_2.then c5
 have CH_8 : Ch (MS m r) w w8 := CH_5.then c8
 exact ⟨O, _, _, ⟨bk_8, row9, ne, fil_8⟩, (by rw [List.map_set]; show List.set _ _ (cx ((F5.zs.getD ((i : Int).toNat) (0, 0)))) = _; rw [← map_getD, hz5, Int.toNat_natCast, otherL_getD hi]), CH_8⟩
def tblG (op : Int) : FuncId := if op = 1 then 205 else if op = 2 then 206 else if op = 3 then 207 else if op = 4 then 208 else if op = 5 then 209 else if op = 6 then 210 else if op = 7 then 211 else if op = 8 then 212 else if op = 9 then 213 else if op = 10 then 214 else 215
theorem call_tblG {op : Int} (h : 1 ≤ op ∧ op ≤ 11) (args : Array Value) (w : World) : (callFunc (tblG op) args).run prog w = .ok (.enter (tblG op) args) w := by
 have : op = 1 ∨ op = 2 ∨ op = 3 ∨ op = 4 ∨ op = 5 ∨ op = 6 ∨ op = 7 ∨ op = 8 ∨ op = 9 ∨ op = 10 ∨ op = 11 := by omega
 rcases this with rfl | rfl | rfl | rfl | rfl | rfl | rfl | rfl | rfl | rfl | rfl
 · exact call205 args w
 · exact call206 args w
 · exact call207 args w
 · exact call208 args w
 · exact call209 args w
 · exact call210 args w
 · exact call211 args w
 · exact call212 args w
 · exact call213 args w
 · exact call214 args w
 · exact call215 args w
theorem actG_ok (m r : Nat) (b : Bld) (N : Nat) (SA : Option Addr) (sc : Nat) (bs : ByteArray) (CA : Option Addr) (ac dn st at_ : Int) (F : Fil) (xs : List CB) (w : World) (mr : MacG w m r b N SA sc bs CA ac dn st at_ F xs) (hN : N ≤ 1000000) (s : Stp) (i : Nat) (h : StepG s N) (hi : (i : Int) < s.count) :
  Calls prog (tblG s.op) #[Kh m, stpV s, Kg i] w (Ret fun v w' => v = .tuple #[] ∧ ∃ F ys, MacG w' m r b N SA sc bs CA ac dn st at_ F ys ∧ ys.map cx = actG s i (xs.map cx) ∧ Ch (MS m r) w w') := by
 obtain ⟨op, dst, src, jump, count, n, k⟩ := s
 obtain ⟨hsm, h1, h5⟩ := h
 have hs := hsm
 obtain ⟨s1, s2, s3, s4, s5, s6, s7⟩ := hs
 simp only at s1 s2 s3 s4 s5 s6 s7 h1 h5 hi
 obtain ⟨d, rfl⟩ := nat_of s2.1
 obtain ⟨u, rfl⟩ := nat_of s3.1
 obtain ⟨v, rfl⟩ := nat_of s4.1
 obtain ⟨c, rfl⟩ := nat_of s5.1
 obtain ⟨nn, rfl⟩ := nat_of s6.1
 obtain ⟨kk, rfl⟩ := nat_of s7.1
 have hm : ∀ a e : Nat, a ≤ e → a * v ≤ e * v := fun a e h => Nat.mul_le_mul_right v h
 have ec : ((c : Int) - 1) * (v : Int) = (((c - 1) * v : Nat) : Int) := by push_cast [show 1 ≤ c by omega]; rfl
 rcases h5 with ⟨rfl, h6, h7⟩ | ⟨rfl, h6, h7⟩ | ⟨rfl, h6⟩ | ⟨rfl, h6, h7, h8, h9, h10⟩ | ⟨rfl, h6, h7, h8⟩ | ⟨rfl, h6, h7, h8, h9, h10, h11⟩ | ⟨rfl, h6, h7, h8⟩ | ⟨rfl, h6, h7, h8, h9⟩ | ⟨rfl, h6, h7⟩ | ⟨rfl, h6⟩ | ⟨rfl, h6⟩
 ·
  rw [ec] at h7
  have := hm i (c - 1) (by omega)
  exact actG_gather m r b N SA sc bs CA ac dn st at_ F xs w mr hN 1 c nn kk d u v i (by omega) (by omega)
 ·
  rw [ec] at h7
  have := hm i (c - 1) (by omega)
  exact actG_scatter m r b N SA sc bs CA ac dn st at_ F xs w mr hN 2 c nn kk d u v i (by omega) (by omega)
 · exact actG_zero m r b N SA sc bs CA ac dn st at_ F xs w mr hN 3 c nn kk d u v i (by omega)
 · exact actG_twist m r b N SA sc bs CA ac dn st at_ F xs w mr hN 4 c d u v nn kk i
 ·
  have e : ((nn : Int) - 1) * (v : Int) = (((nn - 1) * v : Nat) : Int) := by push_cast [show 1 ≤ nn by omega]; rfl
  rw [e] at h8
  exact actG_fly m r b N SA sc bs CA ac dn st at_ F xs w mr hN 5 u c kk d v nn i ⟨by omega, by omega⟩ (fun q hq => by have := hm q (nn - 1) (by omega); omega)
 ·
  have e : ((nn : Int) - 1) * (v : Int) = (((nn - 1) * v : Nat) : Int) := by push_cast [show 1 ≤ nn by omega]; rfl
  rw [e] at h11
  exact actG_direct m r b N SA sc bs CA ac dn st at_ F xs w mr hN 6 c kk d u v nn i (by omega) (by omega) (by omega) (by omega) (by omega) (fun j hj => by have := hm j (nn - 1) (by omega); omega) (by omega)
 · exact actG_chirp m r b N SA sc bs CA ac dn st at_ F xs w mr hN 7 c kk d u v nn i
 · exact actG_fill m r b N SA sc bs CA ac dn st at_ F xs w mr hN d u v c nn kk i (by omega) (by omega) hsm
 · exact actG_times m r b N SA sc bs CA ac dn st at_ F xs w mr hN 9 c nn kk d u v i (by omega) (by omega)
 · exact actG_conj m r b N SA sc bs CA ac dn st at_ F xs w mr hN 10 c nn kk d u v i (by omega)
 · exact actG_over m r b N SA sc bs CA ac dn st at_ F xs w mr hN 11 c nn kk d u v i (by omega)
end Go.Tm
namespace Go.Tm
set_option maxRecDepth 100000
open Go.RowKit Go.Proofs Go.Proofs.Tryz
abbrev tblV : Array Value := #[.nilFunc, .func (.func 205) #[] #[], .func (.func 206) #[] #[], .func (.func 207) #[] #[], .func (.func 208) #[] #[], .func (.func 209) #[] #[], .func (.func 210) #[] #[], .func (.func 211) #[] #[], .func (.func 212) #[] #[], .func (.func 213) #[] #[], .func (.func 214) #[] #[], .func (.func 215) #[] #[]]
theorem tbl_cellG {w : World} {p t : Nat} {op : Int} (h : Bk w p tblV t) (ho : 1 ≤ op ∧ op ≤ 11) : w.cell? ((⟨p, 0, none⟩ : Addr).add (op.toNat * 1)) = some (.func (.func (tblG op)) #[] #[]) := by
 have : op = 1 ∨ op = 2 ∨ op = 3 ∨ op = 4 ∨ op = 5 ∨ op = 6 ∨ op = 7 ∨ op = 8 ∨ op = 9 ∨ op = 10 ∨ op = 11 := by omega
 rcases this with rfl | rfl | rfl | rfl | rfl | rfl | rfl | rfl | rfl | rfl | rfl
 · exact h.cell (i := 1) O
 · exact h.cell (i := 2) O
 · exact h.cell (i := 3) O
 · exact h.cell (i := 4) O
 · exact h.cell (i := 5) O
 · exact h.cell (i := 6) O
 · exact h.cell (i := 7) O
 · exact h.cell (i := 8) O
 · exact h.cell (i := 9) O
 · exact h.cell (i := 10) O
 · exact h.cell (i := 11) O
theorem build212w84 {ps : List (Nat × Value)} {cs : Array Value} (h : Instr.fill (fun i => some (i * 1, 1)) #[.nilFunc, .nilFunc, .nilFunc, .nilFunc, .nilFunc, .nilFunc, .nilFunc, .nilFunc, .nilFunc, .nilFunc, .nilFunc, .nilFunc] ps = some cs) (w : World) : (Instr.build 212 ps.toArray).run prog w = .ok (.agg cs) w := by
 simp [Instr.build, runUnderlying212, ζ212, sizeOf211, Value.cells] at h ⊢
 simp [h]
theorem bld212_1_2_3_4_5_6_7_8_9_10_11w84 {v1 v2 v3 v4 v5 v6 v7 v8 v9 v10 v11 : Value} (h : [v1, v2, v3, v4, v5, v6, v7, v8, v9, v10, v11].all Value.oneCell' = true) : BLD prog 212 [(1, v1), (2, v2), (3, v3), (4, v4), (5, v5), (6, v6), (7, v7), (8, v8), (9, v9), (10, v10), (11, v11)] #[.nilFunc, v1, v2, v3, v4, v5, v6, v7, v8, v9, v10, v11] := build212w84 (fill1 _ _ _ h rfl)
theorem m_table (w : World) :
  Calls prog 166 #[] w (Ret (fun v w' => v = .agg tblV ∧ Ch No w w')) := by
 refine Ku func166 O ntmps166 O (Kb (Km (Ck ζ212) O ?_))
 intro p1 w1 b0 c1 e1 z1
 refine Wy (Om (Ct O (bld212_1_2_3_4_5_6_7_8_9_10_11w84 O)) O (Ks (Cl sizeOf212 O O O O b0) O ?_))
 intro w2 c2 z2 b0_2
 refine Ka (Qp (Rl O O isAgg212 sizeOf212 O (b0_2.all' O) (Kx ?_)))
 have cc_0_2 : Ch No w w2 := (Ch.then (E := No) c1 c2)
 have CH_2 := cc_0_2
 exact ⟨O, CH_2⟩
theorem m_Left (m : Nat) (b : Bld) (N : Nat) (SA : Option Addr) (sc : Nat) (bs : ByteArray) (CA : Option Addr) (ac dn st at_ : Int) (F : Fil) (w : World) (bk : Bk w m (macG b N SA sc bs CA ac dn st at_ F) 209) (hac : 0 ≤ ac ∧ ac ≤ 1000000000 := by omega) (hdn : 0 ≤ dn ∧ dn ≤ 1000000000 := by omega) :
  Calls prog 133 #[Kh m] w (Ret (fun v w' => v = Kg (ac - dn) ∧ Ch No w w')) := by
 refine Ku func133 O ntmps133 O (Kb (Ww O O (Wz (Kj 9 [0, 2, 4, 6, 8, 10, 12, 14, 16] (No) ?_))))
 intro w1 c1 z1
 have bk_1 := bk.keep c1
 refine Wv O O (Ws (Qq O) O (Ws (Qh υ209 O ς3 O O O) O (Wt (fun hS => Qg ι3 O ((bk_1.keep hS).cell O)) O (Wv O O (Ws (Qq O) O (Ws (Qh υ209 O ς3 O O O) O (Wt (fun hS => Qg ι3 O ((bk_1.keep hS).cell O)) O ?_)))))))
 refine Ws (Rg O O) O ?_
 refine Cj (Ww O O (Qf (Ca (Qa (Qp (Qx O O (Kx ?_)))))))
 have CH_1 := c1
 exact ⟨O, CH_1⟩
theorem m_next (r : Nat) (m : Nat) (b : Bld) (N : Nat) (SA : Option Addr) (sc : Nat) (bs : ByteArray) (CA : Option Addr) (ac dn at_ : Int) (st : Nat) (F : Fil) (w : World) (bk : Bk w m (macG b N SA sc bs CA ac dn st at_ F) 209) (S : Nat → Prop) (hS : ∀ q, S q → ¬ MS m r q) (ss : SlR S w SA b.steps.length 7 (flatS b.steps)) (s : Stp) (hs : b.steps[st]? = some s) (hat : at_ = s.count) (hl : b.steps.length ≤ 1000000) :
  Calls prog 167 #[Kh m] w (Ret (fun v w' => v = .tuple #[] ∧ Bk w' m (macG b N SA sc bs CA ac dn (st + 1) 0 F) 209 ∧ Ch (Is m) w w')) := by
 have hjl := (List.getElem?_eq_some_iff.1 hs).1
 have ym := bk.lt
 refine Ku func167 O ntmps167 O (Qe ?_)
 have ks := sl_step ss rfl hs
 refine Kj 17 [0, 2, 4, 6, 8, 10, 12, 14, 16, 18, 20, 22, 24, 26, 28, 30, 32] (No) ?_
 intro w1 c1 z1
 have bk_1 := bk.keep c1
 have ss_1 := ss.keep c1
 have ks_1 := ks.keep c1
 refine Wv O O (Ws (Qq O) O (Ws (Qh υ209 O ς3 O O O) O (Wt (fun hS => Qg ι3 O ((bk_1.keep hS).cell O)) O (Wv O O (Ws (Qq O) O (Ws (Qh υ209 O ς98 O O O) O (Ws (Qh υ98 O ς96 O O O) O ?_)))))))
 refine Wt (fun hS => Qg ι96 O ((bk_1.keep hS).cell O)) O (Wv O O (Ws (Qq O) O (Ws (Qh υ209 O ς3 O O O) O (Wt (fun hS => Qg ι3 O ((bk_1.keep hS).cell O)) O (Ws (Qs υ96 ς135 O O (ss_1.ne (by omega))) O (Ws (Rn.fieldA υ135 O ς3 O O O) O (Wt (fun hS => Qg ι3 O ((ks_1.keep hS).1 4 _ O)) O ?_)))))))
 refine Ws (Cg O O) O (Cj (Qf (Ca (Qa (Qj O (fun hc1 => ?_) (fun hc1 => ?_))))))
 ·
  refine Qb (Wu O O (Wu O O (Wu O O (Om (Qq O) O (Om (Qh υ209 O ς3 O O O) O (Om (Qg ι3 O (bk_1.cell O)) O ?_))))))
  refine Om (Cd O O) O ?_
  refine Om (Qq O) O (Om (Qh υ209 O ς3 O O O) O (Ks (Rk ς3 O O O O bk_1 O) O ?_))
  intro w2 c2 z2 bk_2
  refine Om (Qq O) O (Om (Qh υ209 O ς3 O O O) O (Ks (Rk ς3 O O O O bk_2 O) O ?_))
  intro w3 c3 z3 bk_3
  refine Qf (Rp O (Kx ?_))
  have CH_1 := (Ch.refl (Is m) w).and c1
  have CH_2 : Ch (Is m) w w2 := CH_1.then c2
  have CH_3 : Ch (Is m) w w3 := CH_2.then c3
  exact ⟨O, bk_3, CH_3⟩
 omega
set_option maxHeartbeats 2000000 in
theorem mG_Run (m r : Nat) (b : Bld) (N : Nat) (SA : Option Addr) (sc : Nat) (bs : ByteArray) (CA : Option Addr) (ac : Int) (F : Fil) (xs : List CB) (w : World) (mr : MacG w m r b N SA sc bs CA ac 0 0 0 F xs) (hN : N ≤ 1000000) (hac : ac = cntS b.steps) (hac1 : 1 ≤ ac) (hac2 : ac ≤ 100000000) (hok : ∀ s ∈ b.steps, StepG s N) (hl : b.steps.length ≤ 1000000) (S : Nat → Prop) (hS : ∀ q, S q → ¬ MS m r q) (ss : SlR S w SA b.steps.length 7 (flatS b.steps))  :
  Calls prog 134 #[Kh m, Kg ac] w (Ret (fun v w' => v = .tuple #[Kg ac, .nilIface] ∧ ∃ F ys, MacG w' m r b N SA sc bs CA ac ac b.steps.length 0 F ys ∧ ys.map cx = runG b.steps (xs.map cx) ∧ Ch (MS m r) w w')) := by
 obtain ⟨bk, row, ne, fil⟩ := id mr
 have yr := Ow.lt row; have ym := bk.lt; have fn1 := fil.n1; have fn2 := fil.n2; have fy := Ow.lt fil.ow
 have hmin : (if ac - 0 < ac then ac - 0 else ac) = ac := by split <;> omega
 have hcn : ∀ s ∈ b.steps, 1 ≤ s.count := fun s hs => (hok s hs).cnt.1
 refine Ku func134 O ntmps134 O (Kb (Ww O O (Ww O O (Wz ?_))))
 refine Kb (Wu O O (Om (Co O O) O (Ka (Qj O (fun hc1 => ?_) (fun hc1 => ?_)))))
 · omega
 refine Qn (Qa (Qe (Kb (Wu O O (Oq (Qi call133 O (m_Left _ _ _ _ _ _ _ _ _ _ _ _ _ bk)) O ?_)))))
 rintro _ w1 ⟨rfl, c1⟩
 have z1 := c1.size
 refine Om (Cg O O) O (Ka (Qj O (fun hc2 => ?_) (fun hc2 => ?_)))
 · omega
 refine Qn (Qa (Kb (Wu O O (Wu O O ?_))))
 have bk_1 := bk.keep c1
 refine Oq (Qi call133 O (m_Left _ _ _ _ _ _ _ _ _ _ _ _ _ bk_1)) O ?_
 rintro _ w2 ⟨rfl, c2⟩
 have z2 := c2.size
 refine Om (Rn.minI O O) O (Ww O O (Wy (Oq (Qi call166 O (m_table _)) O ?_)))
 rintro _ w3 ⟨rfl, c3⟩
 have z3 := c3.size
 refine Km (Ck ζ212) O ?_
 intro p4 w4 b6 c4 e4 z4
 refine Ks (Cl sizeOf212 O O O O b6) O ?_
 intro w5 c5 z5 b6_5
 refine Wz (Kb (Wu O O (Ww O O (Qf ?_))))
 refine Qa (Qt ?_)
 have cc_1_5 : Ch No w1 w5 := (Ch.then (E := No) ((c2.and c3).and c4) c5)
 have bk_5 := bk_1.keep cc_1_5
 have cc_0_5 : Ch No w w5 := (Ch.then (E := No) (((c1.and c2).and c3).and c4) c5)
 have row_5 := row.keep cc_0_5
 have ss_5 := ss.keep cc_0_5
 have fil_5 := fil.keep cc_0_5
 have CH_5 := (Ch.refl (MS m r) w).and cc_0_5
 refine Kf (σ := Nat × Int × List CB × Fil) (fun (j, lf, ys, F1) => [(0, Kh m), (1, Kg (if ac - 0 < ac then ac - 0 else ac)), (6, Kh p4), (7, Kg lf)]) (fun (j, lf, ys, F1) w' => j ≤ b.steps.length ∧ lf = cntS (b.steps.drop j) ∧ ys.map cx = runG (b.steps.take j) (xs.map cx) ∧ w5.heap.size ≤ w'.heap.size ∧ Bk w' m (macG b N SA sc bs CA ac 0 j 0 F1) 209 ∧ CR 33 w' r CA N N ys ∧ Bk w' p4 tblV 212 ∧ SlR S w' SA b.steps.length 7 (flatS b.steps) ∧ FilR w' m r F1 ∧ Ch (MS m r) w w') (fun (j, lf, ys, F1) => b.steps.length - j) (0, _, xs, F) ?_ ?_
 · exact ⟨(Nat.zero_le _), (by rw [List.drop_zero]; omega), (by rfl), (Nat.le_refl _), bk_5, row_5, b6_5, ss_5, fil_5, CH_5⟩
 rintro ⟨j, lf, ys, F1⟩ w6 ⟨hj, hlf, hys, hsz6, bk_6, row_6, b6_6, ss_6, fil_6, CH_6⟩
 have hdl := cntG_drop_le hcn j
 have fn1 := fil_6.n1; have fn2 := fil_6.n2
 refine Qe (Kb (Wu O O (Om (Rb O O) O (Ka (Qj O (fun hc3 => ?_) (fun hc3 => ?_))))))
 ·
  obtain ⟨s, hs⟩ := cntS_some (L := b.steps) (j := j) (by omega)
  have hsok := hok s (List.mem_of_getElem? hs)
  have hop := hsok.op11
  have hcp := hsok.cnt.1
  have hcp2 := hsok.cnt.2
  have hcd := cntS_drop hs
  have hjl := (List.getElem?_eq_some_iff.1 hs).1
  have hdl1 := cntG_drop_le hcn (j + 1)
  refine Qn (Qa (Qt (Qe ?_)))
  have ks := sl_step ss_6 rfl hs
  refine Kj 12 [0, 2, 4, 6, 8, 10, 12, 14, 16, 18, 20, 23] (No) ?_
  intro w7 c7 z7
  have bk_7 := bk_6.keep c7
  have row_7 := row_6.keep c7
  have ss_7 := ss_6.keep c7
  have b6_7 := b6_6.keep c7
  have ks_7 := ks.keep c7
  refine Wv O O (Ws (Qq O) O (Ws (Qh υ209 O ς98 O O O) O (Ws (Qh υ98 O ς96 O O O) O (Wt (fun hS => Qg ι96 O ((bk_7.keep hS).cell O)) O (Wv O O (Ws (Qq O) O (Ws (Qh υ209 O ς3 O O O) O ?_)))))))
  refine Wt (fun hS => Qg ι3 O ((bk_7.keep hS).cell O)) O (Ws (Qs υ96 ς135 O O (ss_7.ne (by omega))) O (Wt (fun hS => Qz ι135 ς135 O O (ks_7.keep hS).1) O (Ko (Ck ζ135) O ?_)))
  intro p8 w8 b8 c8 e8 z8
  have RD_8 := (Ch.refl (No) w7).and c8
  refine ⟨RD_8, ?_⟩
  refine Cj (Ks (Cl ς135 O O O O b8) O ?_)
  intro w9 c9 z9 b8_9
  refine Qf (Ca (Qa (Qe (Kj 9 [0, 2, 4, 6, 8, 10, 12, 14, 16] (No) ?_))))
  intro w10 c10 z10
  have cc_7_10 : Ch No w7 w10 := ((Ch.then (E := No) c8 c9).and c10)
  have bk_10 := bk_7.keep cc_7_10
  have row_10 := row_7.keep cc_7_10
  have ss_10 := ss_7.keep cc_7_10
  have b6_10 := b6_7.keep cc_7_10
  have ks_10 := ks_7.keep cc_7_10
  have b8_10 := b8_9.keep c10
  refine Wv O O (Ws (Qq O) O (Ws (Qh υ209 O ς3 O O O) O (Wt (fun hS => Qg ι3 O ((bk_10.keep hS).cell O)) O (Wv O O ?_))))
  refine Ws (Cd O O) O ?_
  refine Ws (Qh υ135 O ς3 O O O) O (Wt (fun hS => Qg ι3 O ((b8_10.keep hS).cell O)) O (Ws (Rn.minI O O) O (Cj (Ww O O (Qf (Ca (Qa ?_)))))))
  refine Kb (Wu O O (Wu O O (Wu O O (Om (Qq O) O (Om (Qh υ209 O ς3 O O O) O (Om (Qg ι3 O (bk_10.cell O)) O ?_))))))
  refine Om (Rg O O) O ?_
  refine Om (Rg O O) O ?_
  refine Ww O O (Wz (Qt ?_))
  have cc_6_10 : Ch No w6 w10 := ((Ch.then (E := No) (c7.and c8) c9).and c10)
  have fil_10 := fil_6.keep cc_6_10
  have CH_10 := CH_6.and cc_6_10
  refine Kf (σ := Nat × Int × Int × List CB × Fil) (fun (i, l2, tt, ys2, F2) => [(0, Kh m), (1, Kg (if ac - 0 < ac then ac - 0 else ac)), (6, Kh p4), (7, Kg l2), (8, Kh p8), (9, Kg tt)]) (fun (i, l2, tt, ys2, F2) w' => i ≤ s.count.toNat ∧ l2 = lf - s.count ∧ tt = s.count ∧ ys2.map cx = actsG s (ys.map cx) i ∧ w10.heap.size ≤ w'.heap.size ∧ Bk w' m (macG b N SA sc bs CA ac 0 j i F2) 209 ∧ CR 33 w' r CA N N ys2 ∧ Bk w' p4 tblV 212 ∧ Bk w' p8 s.cells.toArray 135 ∧ SlR S w' SA b.steps.length 7 (flatS b.steps) ∧ FilR w' m r F2 ∧ Ch (MS m r) w w') (fun (i, l2, tt, ys2, F2) => s.count.toNat - i) (0, _, _, ys, F1) ?_ ?_
  · exact ⟨(Nat.zero_le _), (by split <;> omega), (by split <;> omega), (by rfl), (Nat.le_refl _), bk_10, row_10, b6_10, b8_10, ss_10, fil_10, CH_10⟩
  rintro ⟨i, l2, tt, ys2, F2⟩ w11 ⟨hi, hl2, htt, hys2, hsz11, bk_11, row_11, b6_11, b8_11, ss_11, fil_11, CH_11⟩
  have fn1 := fil_11.n1; have fn2 := fil_11.n2
  refine Qe (Kb (Wu O O (Om (Qq O) O (Om (Qh υ209 O ς3 O O O) O (Om (Qg ι3 O (bk_11.cell O)) O (Wu O O ?_))))))
  refine Om (Co O O) O (Ka (Qj O (fun hc4 => ?_) (fun hc4 => ?_)))
  ·
   refine Qn (Qa (Qe (Qt (Kj 11 [0, 2, 4, 6, 8, 10, 12, 14, 16, 19, 21] (MS m r) ?_))))
   intro w12 c12 z12
   have bk_12 := bk_11.keep c12
   have row_12 := row_11.keep c12
   have ss_12 := ss_11.keep c12
   have b6_12 := b6_11.keep c12
   have b8_12 := b8_11.keep c12
   refine Ws (Qh υ135 O ς3 O O O) O (Wt (fun hS => Qg ι3 O ((b8_12.to hS).cell O)) O (Ws (Rn.indexArr underlying212 sizeOf211 O O) O (Wt (fun hS => Qg isAgg211 O (tbl_cellG (b6_12.to hS (by omega)) hop)) O (Wv O O (Wt (fun hS => Qz ι135 ς135 O O ((b8_12.to hS).all' O)) O (Wv O O (Ws (Qq O) O ?_)))))))
   refine Ws (Qh υ209 O ς3 O O O) O (VH.late (Qg ι3 O (bk_12.cell O)) O O O O (Ch.refl (MS m r) w12) ?_)
   have fil_12 := fil_11.keep c12
   refine Hq (Wk.callv (call_tblG hop) O O (by rfl) (actG_ok _ _ _ _ _ _ _ _ _ _ _ _ _ _ _ ⟨bk_12, row_12, ne, fil_12⟩ hN s i hsok (by omega))) O ?_
   rintro _ w13 ⟨rfl, F13, zs13, mr13, hz13, c13⟩
   obtain ⟨bk13, row13, -, fil13⟩ := id mr13
   have fn1 := fil13.n1; have fn2 := fil13.n2
   have z13 := c13.size
   have RD_13 : Ch (MS m r) w12 w13 := (Ch.refl (MS m r) w12).then c13
   refine ⟨RD_13, ?_⟩
   refine Cj (Qf (Ca (Ql (Qa (Qb (Wu O O (Om (Qq O) O ?_)))))))
   refine Om (Qh υ209 O ς3 O O O) O (Om (Qg ι3 O (bk13.cell O)) O ?_)
   refine Om (Cd O O) O ?_
   refine Om (Qq O) O (Om (Qh υ209 O ς3 O O O) O (Ks (Rk ς3 O O O O bk13 O) O ?_))
   intro w14 c14 z14 bk_14
   refine Qf ?_
   refine Ke (i + 1, l2, tt, zs13, F13) ?_
   have row_14 := row13.to c14
   have b6_13 := b6_12.to c13
   have b6_14 := b6_13.to c14
   have b8_13 := b8_12.to c13
   have b8_14 := b8_13.to c14
   have ss_13 := ss_12.to c13 (fun _ _ h2 _ h3 => hS _ h2 (by first | exact .inr h3 | exact .inl h3 | exact h3))
   have ss_14 := ss_13.to c14 (fun _ _ h2 _ h3 => hS _ h2 (by first | exact .inr h3 | exact .inl h3 | exact h3))
   have fil_14 := fil13.to c14
   have CH_12 := CH_11.and c12
   have CH_13 : Ch (MS m r) w w13 := CH_12.then c13
   have CH_14 : Ch (MS m r) w w14 := CH_13.then c14
   exact ⟨(by omega), (by omega), (by omega), (by rw [hz13, hys2]; rfl), (by omega), bk_14, row_14, b6_14, b8_14, ss_14, fil_14, CH_14⟩
  refine Cn (Qk (Qk (Qy (Qa (Qb (Wu O O (Oq (Qi call167 O (m_next r m b N SA sc bs CA ac 0 _ _ _ _ bk_11 S hS ss_11 s hs (by omega) hl)) O ?_)))))))
  rintro _ w15 ⟨rfl, bk15, c15⟩
  have z15 := c15.size
  refine Qf (Ql ?_)
  refine Ke (j + 1, _, ys2, F2) ?_
  have row_15 := row_11.to c15
  have b6_15 := b6_11.to c15
  have ss_15 := ss_11.to c15 (fun _ _ h2 _ h3 => hS _ h2 (by first | exact .inr h3 | exact .inl h3 | exact h3))
  have fil_15 := fil_11.to c15
  have CH_15 : Ch (MS m r) w w15 := CH_11.then c15
  exact ⟨(by omega), (by omega), (by rw [runG_take hs, ← hys, hys2]; congr 1; omega), (by omega), bk15, row_15, b6_15, ss_15, fil_15, CH_15⟩
 refine Cn (Qk (Qk (Qy (Qa (Kb (Wu O O ?_))))))
 refine Om (Qq O) O (Om (Qh υ209 O ς3 O O O) O (Om (Qg ι3 O (bk_6.cell O)) O (Wu O O ?_)))
 refine Om (Cd O O) O ?_
 refine Om (Qq O) O (Om (Qh υ209 O ς3 O O O) O (Ks (Rk ς3 O O O O bk_6 O) O ?_))
 intro w16 c16 z16 bk_16
 refine Wy (Wu O O (Ww O O (Ww O O (Qf ?_))))
 refine Qa (Qp (Ra O O O (Kx ?_)))
 have hlf0 : cntS (b.steps.drop j) = 0 := by omega
 obtain ⟨e1, e2⟩ := cntG_all hcn hlf0
 have e3 : j = b.steps.length := by omega
 rw [e1] at hys
 have bk9 : Bk w16 m (macG b N SA sc bs CA ac (0 + (if ac - 0 < ac then ac - 0 else ac)) j 0 F1) 209 := bk_16
 rw [hmin, Int.zero_add, e3] at bk9
 have row_16 := row_6.to c16
 have fil_16 := fil_6.to c16
 have CH_16 : Ch (MS m r) w w16 := CH_6.then c16
 exact ⟨by rw [hmin], _, _, ⟨bk9, row_16, ne, fil_16⟩, hys, CH_16⟩
end Go.Tm
namespace Go.Tm
structure GoodG (s : Stp) (N : Nat) : Prop where
  st : StepG s N
  form : formM s = true
  jmp : s.op = 5 → 1 ≤ s.jump
  d1 : s.op = 1 → s.src + (s.count - 1) * s.jump < s.dst ∨ s.dst + s.count ≤ s.src
  d2 : s.op = 2 → s.src + s.count ≤ s.dst ∨ s.dst + (s.count - 1) * s.jump < s.src
  d6 : s.op = 6 → s.src + (s.n - 1) * s.jump < s.dst ∨ s.dst + s.count ≤ s.src
  d9 : s.op = 9 → s.src + s.count ≤ s.dst ∨ s.dst + s.count ≤ s.src
structure PrgG (b : Bld) (N : Nat) : Prop where
  cl : b.cl = N
  ln : 1 ≤ b.ln ∧ b.ln ≤ 16384
  n1 : 1 ≤ N ∧ N ≤ 262144
  i0 : 0 ≤ b.i0 ∧ b.i0 ≤ b.cl - b.ln
  ou : 0 ≤ b.ou ∧ b.ou ≤ b.cl - b.ln
  st : ∀ s ∈ b.steps, GoodG s N
  len : b.steps.length ≤ 65536
  act : cntS b.steps ≤ 67108864
theorem PrgG.ok {b : Bld} {N : Nat} (h : PrgG b N) : ∀ s ∈ b.steps, StepG s N := fun s hs => (h.st s hs).st
theorem PrgG.cn {b : Bld} {N : Nat} (h : PrgG b N) : ∀ s ∈ b.steps, 1 ≤ s.count := fun s hs => (h.st s hs).st.cnt.1
theorem StepG.mono {s : Stp} {N M : Nat} (h : StepG s N) (hm : N ≤ M) : StepG s M := by
 refine ⟨h.sm, h.cnt, ?_⟩
 rcases h.op with h | h | h | h | h | h | h | h | h | h | h
 · exact .inl ⟨h.1, by omega, by omega⟩
 · exact .inr (.inl ⟨h.1, by omega, by omega⟩)
 · exact .inr (.inr (.inl ⟨h.1, by omega⟩))
 · exact .inr (.inr (.inr (.inl ⟨h.1, by omega, h.2.2⟩)))
 · exact .inr (.inr (.inr (.inr (.inl ⟨h.1, h.2.1, h.2.2.1, by omega⟩))))
 · exact .inr (.inr (.inr (.inr (.inr (.inl ⟨h.1, h.2.1, h.2.2.1, h.2.2.2.1, h.2.2.2.2.1, by omega, by omega⟩)))))
 · exact .inr (.inr (.inr (.inr (.inr (.inr (.inl ⟨h.1, by omega, h.2.2⟩))))))
 · exact .inr (.inr (.inr (.inr (.inr (.inr (.inr (.inl ⟨h.1, by omega, h.2.2⟩)))))))
 · exact .inr (.inr (.inr (.inr (.inr (.inr (.inr (.inr (.inl ⟨h.1, by omega, by omega⟩))))))))
 · exact .inr (.inr (.inr (.inr (.inr (.inr (.inr (.inr (.inr (.inl ⟨h.1, by omega⟩)))))))))
 · exact .inr (.inr (.inr (.inr (.inr (.inr (.inr (.inr (.inr (.inr ⟨h.1, by omega⟩)))))))))
theorem GoodG.mono {s : Stp} {N M : Nat} (h : GoodG s N) (hm : N ≤ M) : GoodG s M := ⟨h.st.mono hm, h.form, h.jmp, h.d1, h.d2, h.d6, h.d9⟩
theorem no_op {s : Stp} {b : Int} {p : Prop} (i : Int) (hi : s.op = i) (h : ¬ i = b) : s.op = b → p := fun e => absurd (hi.symm.trans e) h
theorem cntS_snoc (l : List Stp) (s : Stp) : cntS (l ++ [s]) = cntS l + s.count := by
 induction l with
 | nil => show s.count + 0 = 0 + s.count; omega
 | cons t r ih => show t.count + cntS (r ++ [s]) = t.count + cntS r + s.count; omega
structure PB (b : Bld) : Prop where
  ok : BdOk b
  st : ∀ s ∈ b.steps, GoodG s b.cl.toNat
  ac : b.acts = cntS b.steps
theorem PB.add {b : Bld} {s : Stp} (h : PB b) (hs : b.full = false → GoodG s b.cl.toNat) : PB (b.add s) := by
 refine ⟨h.ok.add s, ?_, ?_⟩
 ·
  rw [add_cl]
  intro t ht
  by_cases hf : b.full = true
  · rw [add_full hf] at ht; exact h.st t ht
  ·
   have hf : b.full = false := by simpa using hf
   rw [add_not hf] at ht
   rcases List.mem_append.1 ht with ht | ht
   · exact h.st t ht
   ·
    obtain rfl := List.mem_singleton.1 ht
    exact hs hf
 ·
  by_cases hf : b.full = true
  · rw [add_full hf]; exact h.ac
  ·
   have hf : b.full = false := by simpa using hf
   rw [add_not hf]
   show b.acts + actsM s = cntS (b.steps ++ [s])
   rw [cntS_snoc, h.ac, actsM, if_pos (hs hf).form]
theorem PB.region {b : Bld} {n : Int} (h : PB b) (h0 : 0 ≤ n) (h1 : b.fr + n ≤ 400000) : PB (b.region n) :=
 ⟨h.ok.region h0 h1, fun s hs => (h.st s hs).mono (by have := region_cl b n; omega), h.ac⟩
theorem PB.back {b c : Bld} (h : PB c) (hb : PB b) (hc : b.cl ≤ c.cl) : PB { c with fr := b.fr } :=
 ⟨⟨hb.ok.f0, Int.le_trans hb.ok.f1 hc, h.ok.c1, h.ok.l1, h.ok.a0, h.ok.a1⟩, h.st, h.ac⟩
structure InsOk (x : Inst) (L f : Int) : Prop where
  s0 : 0 ≤ x.src
  j1 : 1 ≤ x.jump
  j2 : x.jump ≤ 262144
  sL : x.src + (L - 1) * x.jump < f
  d0 : 0 ≤ x.dst
  dL : x.dst + L ≤ f
  dis : x.src + (L - 1) * x.jump < x.dst ∨ x.dst + L ≤ x.src
theorem form_any {s : Stp} (i : Nat) (hi : s.op = i) (h1 : 1 ≤ i) (h11 : i ≤ 11) (hd : 0 ≤ s.dst ∧ s.dst ≤ 262143) (hc : 1 ≤ s.count ∧ s.count ≤ 262144) (hs : fromM (kSrc i) s.src 0 262143 = true) (hj : fromM (kJmp i) s.jump 1 262144 = true) (hn : fromM (decide (kN i > 0)) s.n (if i = 5 then 2 else 1) (kN i) = true) (hk : fromM (kK i) s.k 0 (s.n - 1) = true)
  (hl : (if i = 5 then decide (s.count ≤ s.jump) else if i = 6 ∨ i = 7 then decide (s.count ≤ s.n) else if i = 8 then decide (s.count ≥ 2 * s.n - 1) && decide (s.count ≤ 16384) else true) = true) : formM s = true := by
 have e : s.op.toNat = i := by omega
 have c5 : (s.op = 5) = (i = 5) := by rw [hi]; exact propext (by omega)
 have c6 : (s.op = 6) = (i = 6) := by rw [hi]; exact propext (by omega)
 have c7 : (s.op = 7) = (i = 7) := by rw [hi]; exact propext (by omega)
 have c8 : (s.op = 8) = (i = 8) := by rw [hi]; exact propext (by omega)
 unfold formM
 rw [if_neg (by omega)]
 simp only [e, c5, c6, c7, c8]
 have a1 : fromM true s.dst 0 262143 = true := by simp [fromM]; omega
 have a2 : fromM true s.count 1 262144 = true := by simp [fromM]; omega
 rw [if_neg (by rw [a1, a2, hs, hj, hn, hk]; decide)]
 exact hl
theorem from_yes {x lo hi : Int} (h : lo ≤ x ∧ x ≤ hi) : fromM true x lo hi = true := by simp [fromM]; omega
theorem from_no {lo hi : Int} : fromM false 0 lo hi = true := rfl
theorem sm_any {s : Stp} (h0 : 0 ≤ s.op ∧ s.op ≤ 1000000) (h1 : 0 ≤ s.dst ∧ s.dst ≤ 1000000) (h2 : 0 ≤ s.src ∧ s.src ≤ 1000000) (h3 : 0 ≤ s.jump ∧ s.jump ≤ 1000000) (h4 : 0 ≤ s.count ∧ s.count ≤ 1000000) (h5 : 0 ≤ s.n ∧ s.n ≤ 1000000) (h6 : 0 ≤ s.k ∧ s.k ≤ 1000000) : SmS s := ⟨h0, h1, h2, h3, h4, h5, h6⟩
section
variable {N : Int}
theorem g_gather {d s j c : Int} (hN : N ≤ 262144) (hd : 0 ≤ d ∧ d + c ≤ N) (hc : 1 ≤ c) (hs : 0 ≤ s) (hj : 1 ≤ j ∧ j ≤ 262144) (hs2 : s + (c - 1) * j < N) (hx : s + (c - 1) * j < d ∨ d + c ≤ s) : GoodG (gatherS d s j c) N.toNat := by
 have hp : 0 ≤ (c - 1) * j := Int.mul_nonneg (by omega) (by omega)
 exact ⟨⟨sm_any (by simp [gatherS]) (by simp only [gatherS]; omega) (by simp only [gatherS]; omega) (by simp only [gatherS]; omega) (by simp only [gatherS]; omega) (by simp [gatherS]) (by simp [gatherS]), by simp only [gatherS]; omega, .inl ⟨O, by simp only [gatherS]; omega, by simp only [gatherS]; omega⟩⟩,
  form_any 1 rfl (by decide) (by decide) (by simp only [gatherS]; omega) (by simp only [gatherS]; omega) (from_yes (by simp only [gatherS]; omega)) (from_yes (by simp only [gatherS]; omega)) from_no from_no rfl,
  no_op 1 rfl (by decide), fun _ => hx, no_op 1 rfl (by decide), no_op 1 rfl (by decide), no_op 1 rfl (by decide)⟩
theorem g_scatter {d s j c : Int} (hN : N ≤ 262144) (hd : 0 ≤ d ∧ d + (c - 1) * j < N) (hc : 1 ≤ c) (hs : 0 ≤ s) (hj : 1 ≤ j ∧ j ≤ 262144) (hs2 : s + c ≤ N) (hx : s + c ≤ d ∨ d + (c - 1) * j < s) : GoodG (scatterS d s j c) N.toNat := by
 have hp : 0 ≤ (c - 1) * j := Int.mul_nonneg (by omega) (by omega)
 exact ⟨⟨sm_any (by simp [scatterS]) (by simp only [scatterS]; omega) (by simp only [scatterS]; omega) (by simp only [scatterS]; omega) (by simp only [scatterS]; omega) (by simp [scatterS]) (by simp [scatterS]), by simp only [scatterS]; omega, .inr (.inl ⟨O, by simp only [scatterS]; omega, by simp only [scatterS]; omega⟩)⟩,
  form_any 2 rfl (by decide) (by decide) (by simp only [scatterS]; omega) (by simp only [scatterS]; omega) (from_yes (by simp only [scatterS]; omega)) (from_yes (by simp only [scatterS]; omega)) from_no from_no rfl,
  no_op 2 rfl (by decide), no_op 2 rfl (by decide), fun _ => hx, no_op 2 rfl (by decide), no_op 2 rfl (by decide)⟩
theorem g_zero {d c : Int} (hN : N ≤ 262144) (hd : 0 ≤ d ∧ d + c ≤ N) (hc : 1 ≤ c) : GoodG (zeroS d c) N.toNat :=
 ⟨⟨sm_any (by simp [zeroS]) (by simp only [zeroS]; omega) (by simp [zeroS]) (by simp [zeroS]) (by simp only [zeroS]; omega) (by simp [zeroS]) (by simp [zeroS]), by simp only [zeroS]; omega, .inr (.inr (.inl ⟨rfl, by simp only [zeroS]; omega⟩))⟩,
  form_any 3 rfl (by decide) (by decide) (by simp only [zeroS]; omega) (by simp only [zeroS]; omega) from_no from_no from_no from_no rfl,
  no_op 3 rfl (by decide), no_op 3 rfl (by decide), no_op 3 rfl (by decide), no_op 3 rfl (by decide), no_op 3 rfl (by decide)⟩
theorem g_twist {d c n k : Int} (hN : N ≤ 262144) (hd : 0 ≤ d ∧ d + c ≤ N) (hc : 1 ≤ c) (hn : 1 ≤ n ∧ n ≤ 16384) (hk : 0 ≤ k ∧ k < n) : GoodG (twistS d c n k) N.toNat :=
 ⟨⟨sm_any (by simp [twistS]) (by simp only [twistS]; omega) (by simp [twistS]) (by simp [twistS]) (by simp only [twistS]; omega) (by simp only [twistS]; omega) (by simp only [twistS]; omega), by simp only [twistS]; omega, .inr (.inr (.inr (.inl ⟨rfl, by simp only [twistS]; omega, hn.1, hn.2, hk.1, hk.2⟩)))⟩,
  form_any 4 rfl (by decide) (by decide) (by simp only [twistS]; omega) (by simp only [twistS]; omega) from_no from_no (from_yes hn) (from_yes (by simp only [twistS]; omega)) rfl,
  no_op 4 rfl (by decide), no_op 4 rfl (by decide), no_op 4 rfl (by decide), no_op 4 rfl (by decide), no_op 4 rfl (by decide)⟩
theorem g_fly {d j c r : Int} (hN : N ≤ 262144) (hd : 0 ≤ d) (hc : 1 ≤ c ∧ c ≤ j) (hj : j ≤ 262144) (hr : 2 ≤ r ∧ r ≤ 5) (hs2 : d + c - 1 + (r - 1) * j < N) : GoodG (flyS d j c r) N.toNat := by
 have hp : 0 ≤ (r - 1) * j := Int.mul_nonneg (by omega) (by omega)
 exact ⟨⟨sm_any (by simp [flyS]) (by simp only [flyS]; omega) (by simp [flyS]) (by simp only [flyS]; omega) (by simp only [flyS]; omega) (by simp only [flyS]; omega) (by simp [flyS]), by simp only [flyS]; omega, .inr (.inr (.inr (.inr (.inl ⟨O, hr.1, hr.2, by simp only [flyS]; omega⟩))))⟩,
  form_any 5 rfl (by decide) (by decide) (by simp only [flyS]; omega) (by simp only [flyS]; omega) from_no (from_yes (by simp only [flyS]; omega)) (from_yes hr) from_no (by show decide (c ≤ j) = true; exact decide_eq_true hc.2),
  fun _ => by simp only [flyS]; omega, no_op 5 rfl (by decide), no_op 5 rfl (by decide), no_op 5 rfl (by decide), no_op 5 rfl (by decide)⟩
theorem g_direct {x : Inst} {n : Int} (hN : N ≤ 262144) (hn : 1 ≤ n ∧ n ≤ 64) (h : InsOk x n N) : GoodG (directS x n) N.toNat := by
 obtain ⟨s0, j1, j2, sL, d0, dL, dis⟩ := h
 have hp : 0 ≤ (n - 1) * x.jump := Int.mul_nonneg (by omega) (by omega)
 exact ⟨⟨sm_any (by simp [directS]) (by simp only [directS]; omega) (by simp only [directS]; omega) (by simp only [directS]; omega) (by simp only [directS]; omega) (by simp only [directS]; omega) (by simp [directS]), by simp only [directS]; omega, .inr (.inr (.inr (.inr (.inr (.inl ⟨O, hn.1, hn.2, j1, Int.le_refl _, by simp only [directS]; omega, by simp only [directS]; omega⟩)))))⟩,
  form_any 6 rfl (by decide) (by decide) (by simp only [directS]; omega) (by simp only [directS]; omega) (from_yes (by simp only [directS]; omega)) (from_yes ⟨j1, j2⟩) (from_yes hn) from_no (by simp [directS]),
  no_op 6 rfl (by decide), no_op 6 rfl (by decide), no_op 6 rfl (by decide), fun _ => dis, no_op 6 rfl (by decide)⟩
theorem g_chirp {d n : Int} (hN : N ≤ 262144) (hd : 0 ≤ d ∧ d + n ≤ N) (hn : 1 ≤ n ∧ n ≤ 16384) : GoodG (chirpS d n n) N.toNat :=
 ⟨⟨sm_any (by simp [chirpS]) (by simp only [chirpS]; omega) (by simp [chirpS]) (by simp [chirpS]) (by simp only [chirpS]; omega) (by simp only [chirpS]; omega) (by simp [chirpS]), by simp only [chirpS]; omega, .inr (.inr (.inr (.inr (.inr (.inr (.inl ⟨rfl, by simp only [chirpS]; omega, hn.1, hn.2⟩))))))⟩,
  form_any 7 rfl (by decide) (by decide) (by simp only [chirpS]; omega) (by simp only [chirpS]; omega) from_no from_no (from_yes hn) from_no (by simp [chirpS]),
  no_op 7 rfl (by decide), no_op 7 rfl (by decide), no_op 7 rfl (by decide), no_op 7 rfl (by decide), no_op 7 rfl (by decide)⟩
theorem g_fill {d m n : Int} (hN : N ≤ 262144) (hd : 0 ≤ d ∧ d + m ≤ N) (hn : 1 ≤ n ∧ n ≤ 16384) (hm : 2 * n - 1 ≤ m ∧ m ≤ 16384) : GoodG (fillS d m n) N.toNat :=
 ⟨⟨sm_any (by simp [fillS]) (by simp only [fillS]; omega) (by simp [fillS]) (by simp [fillS]) (by simp only [fillS]; omega) (by simp only [fillS]; omega) (by simp [fillS]), by simp only [fillS]; omega, .inr (.inr (.inr (.inr (.inr (.inr (.inr (.inl ⟨rfl, by simp only [fillS]; omega, hn.1, hm.1, hm.2⟩)))))))⟩,
  form_any 8 rfl (by decide) (by decide) (by simp only [fillS]; omega) (by simp only [fillS]; omega) from_no from_no (from_yes hn) from_no (by show (decide (m ≥ 2 * n - 1) && decide (m ≤ 16384)) = true; rw [decide_eq_true (show m ≥ 2 * n - 1 by omega), decide_eq_true hm.2]; rfl),
  no_op 8 rfl (by decide), no_op 8 rfl (by decide), no_op 8 rfl (by decide), no_op 8 rfl (by decide), no_op 8 rfl (by decide)⟩
theorem g_times {d s c : Int} (hN : N ≤ 262144) (hd : 0 ≤ d ∧ d + c ≤ N) (hc : 1 ≤ c) (hs : 0 ≤ s ∧ s + c ≤ N) (hx : s + c ≤ d ∨ d + c ≤ s) : GoodG (tmsS d s c) N.toNat :=
 ⟨⟨sm_any (by simp [tmsS]) (by simp only [tmsS]; omega) (by simp only [tmsS]; omega) (by simp [tmsS]) (by simp only [tmsS]; omega) (by simp [tmsS]) (by simp [tmsS]), by simp only [tmsS]; omega, .inr (.inr (.inr (.inr (.inr (.inr (.inr (.inr (.inl ⟨rfl, by simp only [tmsS]; omega, by simp only [tmsS]; omega⟩))))))))⟩,
  form_any 9 rfl (by decide) (by decide) (by simp only [tmsS]; omega) (by simp only [tmsS]; omega) (from_yes (by simp only [tmsS]; omega)) from_no from_no from_no rfl,
  no_op 9 rfl (by decide), no_op 9 rfl (by decide), no_op 9 rfl (by decide), no_op 9 rfl (by decide), fun _ => hx⟩
theorem g_conj {d c : Int} (hN : N ≤ 262144) (hd : 0 ≤ d ∧ d + c ≤ N) (hc : 1 ≤ c) : GoodG (conjS d c) N.toNat :=
 ⟨⟨sm_any (by simp [conjS]) (by simp only [conjS]; omega) (by simp [conjS]) (by simp [conjS]) (by simp only [conjS]; omega) (by simp [conjS]) (by simp [conjS]), by simp only [conjS]; omega, .inr (.inr (.inr (.inr (.inr (.inr (.inr (.inr (.inr (.inl ⟨rfl, by simp only [conjS]; omega⟩)))))))))⟩,
  form_any 10 rfl (by decide) (by decide) (by simp only [conjS]; omega) (by simp only [conjS]; omega) from_no from_no from_no from_no rfl,
  no_op 10 rfl (by decide), no_op 10 rfl (by decide), no_op 10 rfl (by decide), no_op 10 rfl (by decide), no_op 10 rfl (by decide)⟩
theorem g_over {d c n : Int} (hN : N ≤ 262144) (hd : 0 ≤ d ∧ d + c ≤ N) (hc : 1 ≤ c) (hn : 1 ≤ n ∧ n ≤ 16384) : GoodG (overS d c n) N.toNat :=
 ⟨⟨sm_any (by simp [overS]) (by simp only [overS]; omega) (by simp [overS]) (by simp [overS]) (by simp only [overS]; omega) (by simp only [overS]; omega) (by simp [overS]), by simp only [overS]; omega, .inr (.inr (.inr (.inr (.inr (.inr (.inr (.inr (.inr (.inr ⟨rfl, by simp only [overS]; omega⟩)))))))))⟩,
  form_any 11 rfl (by decide) (by decide) (by simp only [overS]; omega) (by simp only [overS]; omega) from_no from_no (from_yes hn) from_no rfl,
  no_op 11 rfl (by decide), no_op 11 rfl (by decide), no_op 11 rfl (by decide), no_op 11 rfl (by decide), no_op 11 rfl (by decide)⟩
end
end Go.Tm
namespace Go.Tm
theorem InsOk.part {x : Inst} {a b f f' t j : Int} (h : InsOk x (a * b) f) (ha : 2 ≤ a) (hb : 2 ≤ b) (hj : 0 ≤ j ∧ j < a) (hf : f ≤ 262144) (ht : 0 ≤ t) (hf' : f ≤ f') (htL : t + a * b ≤ f') (hdis : x.src + (a * b - 1) * x.jump < t ∨ t + a * b ≤ x.src) : InsOk ⟨x.src + j * x.jump, x.jump * a, t + j * b⟩ b f' := by
 obtain ⟨s0, j1, j2, sL, d0, dL, dis⟩ := h
 have hab : 2 * a ≤ a * b := by rw [Int.mul_comm a b]; exact Int.mul_le_mul_of_nonneg_right hb (by omega)
 have e2 : (b - 1) * (x.jump * a) = (a * b - a) * x.jump := by rw [Int.mul_comm x.jump a, ← Int.mul_assoc, Int.sub_mul, Int.one_mul, Int.mul_comm b a]
 have e4 : (j + (a * b - a)) * x.jump ≤ (a * b - 1) * x.jump := Int.mul_le_mul_of_nonneg_right (by omega) (by omega)
 have e5 : (j + (a * b - a)) * x.jump = j * x.jump + (a * b - a) * x.jump := Int.add_mul ..
 have e6 : a * x.jump ≤ (a * b - 1) * x.jump := Int.mul_le_mul_of_nonneg_right (by omega) (by omega)
 have e7 : 0 ≤ j * x.jump := Int.mul_nonneg hj.1 (by omega)
 have e8 : 0 ≤ j * b := Int.mul_nonneg hj.1 (by omega)
 have e9 : (j + 1) * b ≤ a * b := Int.mul_le_mul_of_nonneg_right (by omega) (by omega)
 rw [Int.add_mul, Int.one_mul] at e9
 have e10 : 1 * 2 ≤ x.jump * a := Int.mul_le_mul j1 ha (by omega) (by omega)
 have e11 : x.jump * a = a * x.jump := Int.mul_comm _ _
 refine ⟨by simp only; omega, by simp only; omega, by simp only; omega, ?_, by simp only; omega, by simp only; omega, ?_⟩
 · simp only; rw [e2]; omega
 · simp only; rw [e2]; omega
structure PF (f cl : Int) (b : Bld) : Prop where
  pb : PB b
  fr : b.fr = f
  cl : cl ≤ b.cl
def DeepG (R : Inst → Bld → Bld) (L : Int) : Prop := ∀ x b, PB b → InsOk x L b.fr → PB (R x b)
theorem PF.rek {f cl L : Int} {b : Bld} {R : Inst → Bld → Bld} (h : PF f cl b) (hR : DeepG R L) (hK : Keeps R) {x : Inst} (hx : InsOk x L f) : PF f cl (R x b) := by
 have k := hK x b h.pb.ok
 exact ⟨hR x b h.pb (by rw [h.fr]; exact hx), k.fr.trans h.fr, Int.le_trans h.cl k.cl⟩
theorem PF.add {f cl : Int} {b : Bld} {s : Stp} (h : PF f cl b) (hs : ∀ N : Int, cl ≤ N → N ≤ 262144 → GoodG s N.toNat) : PF f cl (b.add s) :=
 ⟨h.pb.add fun hf => hs _ h.cl (full_false hf).2.1, (add_fr _ _).trans h.fr, by rw [add_cl]; exact h.cl⟩
theorem PF.fold {f cl : Int} {n : Nat} {F : Bld → Nat → Bld} (hF : ∀ b j, j < n → PF f cl b → PF f cl (F b j)) : ∀ (l : List Nat), (∀ j ∈ l, j < n) → ∀ b, PF f cl b → PF f cl (l.foldl F b)
 | [], _, _, h => h
 | j :: t, hl, b, h => PF.fold hF t (fun i hi => hl i (List.mem_cons_of_mem _ hi)) _ (hF b j (hl j (List.mem_cons_self ..)) h)
theorem PF.range {f cl : Int} {n : Nat} {F : Bld → Nat → Bld} {b : Bld} (h : PF f cl b) (hF : ∀ b j, j < n → PF f cl b → PF f cl (F b j)) : PF f cl ((List.range n).foldl F b) := PF.fold hF _ (fun _ hj => List.mem_range.1 hj) _ h
theorem PF.timesJ {f cl a b t f0 : Int} {x : Inst} {R : Inst → Bld → Bld} {c : Bld} {j : Nat} (h : PF f cl c) (hR : DeepG R b) (hK : Keeps R) (hx : InsOk x (a * b) f0) (ha : 2 ≤ a) (hb : 2 ≤ b) (hab : a * b ≤ 16384) (hf0 : f0 ≤ 262144) (ht : 0 ≤ t) (hff : f0 ≤ f) (htL : t + a * b ≤ f) (hfc : f ≤ cl) (hdis : x.src + (a * b - 1) * x.jump < t ∨ t + a * b ≤ x.src) (hj : j < a.toNat) : PF f cl (Go.Tm.timesJ R x a b t c j) := by
 have hja : (j : Int) < a := by omega
 have hp := hx.part (j := j) ha hb ⟨by omega, hja⟩ hf0 ht hff htL hdis
 have h2 := h.rek hR hK hp
 unfold Go.Tm.timesJ
 simp only
 split
 ·
  have d0 := hp.d0
  have dL := hp.dL
  simp only at d0 dL
  have hab2 : 1 * a ≤ b * a := Int.mul_le_mul_of_nonneg_right (by omega) (by omega)
  rw [Int.one_mul, Int.mul_comm b a] at hab2
  exact h2.add fun N h1 h2 => g_twist h2 ⟨d0, by omega⟩ (by omega) ⟨by omega, hab⟩ ⟨by omega, by omega⟩
 · exact h2
theorem PF.timesK {f cl a b t z : Int} {x : Inst} {R : Inst → Bld → Bld} {c : Bld} {k : Nat} (h : PF f cl c) (hR : DeepG R a) (hK : Keeps R) (ha : 2 ≤ a) (hb : 2 ≤ b) (hab : a * b ≤ 16384) (ht : 0 ≤ t) (htz : t + a * b ≤ z) (hzf : z + a ≤ f) (hfc : f ≤ cl) (hd0 : 0 ≤ x.dst) (hdt : x.dst + a * b ≤ t) (hk : k < b.toNat) : PF f cl (Go.Tm.timesK R x a b t z c k) := by
 have hkb : (k : Int) < b := by omega
 have e : (a - 1) * b = a * b - b := by rw [Int.sub_mul, Int.one_mul]
 have hb2 : 2 * b ≤ a * b := Int.mul_le_mul_of_nonneg_right ha (by omega)
 have hx : InsOk ⟨t + k, b, z⟩ a f := ⟨by simp only; omega, by simp only; omega, by simp only; omega, by simp only; rw [e]; omega, by simp only; omega, hzf, .inl (by simp only; rw [e]; omega)⟩
 unfold Go.Tm.timesK
 exact (h.rek hR hK hx).add fun N h1 h2 => g_scatter h2 ⟨by omega, by rw [e]; omega⟩ (by omega) (by omega) ⟨by omega, by omega⟩ (by omega) (.inr (by rw [e]; omega))
theorem region_fr (b : Bld) (n : Int) : (b.region n).fr = b.fr + n := rfl
theorem region_ge (b : Bld) (n : Int) : b.fr + n ≤ (b.region n).cl := by simp only [Bld.region]; split <;> omega
theorem PB.pf {b : Bld} (h : PB b) : PF b.fr b.fr b := ⟨h, rfl, h.ok.f1⟩
theorem PF.region {f cl : Int} {b : Bld} {n : Int} (h : PF f cl b) (h0 : 0 ≤ n) (h1 : f + n ≤ 400000) : PF (f + n) (f + n) (b.region n) :=
 ⟨h.pb.region h0 (by rw [h.fr]; exact h1), by rw [region_fr, h.fr], by have := region_ge b n; rw [h.fr] at this; exact this⟩
theorem deepG {o : Ord} (h : GO o) : DeepG (deepM o) (sl o) := by
 have D : ∀ {o : Ord} (x : Inst) {b r : Bld}, PB b → (b.full = false → deepM o x b = { r with fr := b.fr } ∧ PB r ∧ b.cl ≤ r.cl) → PB (deepM o x b) := by
  intro o x b r hb h
  by_cases hf : b.full = true
  · rw [deepM_full hf]; exact hb
  ·
   obtain ⟨e, h1, h2⟩ := h (by simpa using hf)
   rw [e]; exact h1.back hb h2
 induction h with
 | @direct n h1 h2 =>
  intro x b hb hx
  have hx' : InsOk x n b.fr := hx
  refine D x hb fun hf => ⟨deepM_direct hf O, ?_⟩
  have := hb.pf.add (s := directS x n) fun N a1 a2 => g_direct a2 ⟨h1, h2⟩ ⟨hx'.s0, hx'.j1, hx'.j2, Int.lt_of_lt_of_le hx'.sL a1, hx'.d0, Int.le_trans hx'.dL a1, hx'.dis⟩
  exact ⟨this.pb, by rw [show (Ord.mk 1 n []).n = n from O, add_cl]; exact Int.le_refl _⟩
 | @fly n h1 h2 =>
  intro x b hb hx
  obtain ⟨s0, j1, j2, sL, d0, dL, dis⟩ : InsOk x n b.fr := hx
  refine D x hb fun hf => ⟨deepM_fly hf O, ?_⟩
  have := (hb.pf.add (s := gatherS x.dst x.src x.jump n) fun N a1 a2 => g_gather a2 ⟨d0, by omega⟩ (by omega) s0 ⟨j1, j2⟩ (by omega) dis).add (s := flyS x.dst 1 1 n) fun N a1 a2 => g_fly a2 d0 ⟨by omega, by omega⟩ (by omega) ⟨h1, h2⟩ (by omega)
  exact ⟨this.pb, by rw [show (Ord.mk 2 n []).n = n from O, add_cl, add_cl]; exact Int.le_refl _⟩
 | @times a b ga gb h2 h3 h4 ia ib =>
  intro x c hc hx
  have hx' : InsOk x (a.len * b.len) c.fr := hx
  have ka := deepM_keeps ga
  have kb := deepM_keeps gb
  rw [← len_sl (show a.len ≠ 0 by omega)] at ia
  rw [← len_sl (show b.len ≠ 0 by omega)] at ib
  refine D x hc fun hf => ⟨deepM_times hf O O, ?_⟩
  have hcl := (full_false hf).2.1
  have hfr := hc.ok.f1
  have hf0 := hc.ok.f0
  refine ⟨?_, (timesM_ok ka kb _ x hc.ok hf h2 h3 h4).2⟩
  unfold timesM
  have hab0 : 2 * b.len ≤ a.len * b.len := Int.mul_le_mul_of_nonneg_right h2 (by omega)
  have e : (a.len - 1) * b.len = a.len * b.len - b.len := by rw [Int.sub_mul, Int.one_mul]
  split
  ·
   rename_i hk
   have hk2 : a.kind = 2 := by simpa using hk
   have har : 2 ≤ a.len ∧ a.len ≤ 5 := by
    have := len_sl (show a.len ≠ 0 by omega)
    cases ga with
    | fly p1 p2 => rw [this]; exact ⟨p1, p2⟩
    | direct _ _ => exact absurd (show (1 : Int) = 2 from hk2) (by decide)
    | times _ _ _ _ _ => exact absurd (show (3 : Int) = 2 from hk2) (by decide)
    | blue _ _ _ _ => exact absurd (show (4 : Int) = 2 from hk2) (by decide)
   have hF := (PF.range (n := a.len.toNat) hc.pf fun d j hj hd => PF.timesJ hd ib kb hx' h2 h3 h4 (by omega) hx'.d0 (Int.le_refl _) hx'.dL (Int.le_refl _) hx'.dis hj).add (s := flyS x.dst b.len b.len a.len) fun N a1 a2 => g_fly a2 hx'.d0 ⟨by omega, Int.le_refl _⟩ (by have := hx'.d0; have := hx'.dL; omega) har (by rw [e]; have := hx'.dL; omega)
   exact hF.pb
  ·
   simp only
   have hla := len_bd a
   have hr := (hc.pf.region (n := a.len * b.len) (by omega) (by omega)).region (n := a.len) (by omega) (by omega)
   have hdl := hx'.dL
   have hd0 := hx'.d0
   have hsl := hx'.sL
   have hJ := PF.range (n := a.len.toNat) hr fun d j hj hd => PF.timesJ hd ib kb hx' h2 h3 h4 (by omega) (t := c.fr) hf0 (by omega) (by omega) (Int.le_refl _) (.inl hsl) hj
   exact (PF.range (n := b.len.toNat) hJ fun d k hk hd => PF.timesK (x := x) hd ia ka h2 h3 h4 hf0 (Int.le_refl _) (Int.le_refl _) (Int.le_refl _) hd0 hdl hk).pb
 | @blue n a h1 h2 ga h3 ia =>
  intro x c hc hx
  have hx' : InsOk x n c.fr := hx
  have ka := deepM_keeps ga
  have hm := len_bd a
  rw [← len_sl (show a.len ≠ 0 by omega)] at ia
  refine D x hc fun hf => ⟨deepM_blue hf O O, ?_⟩
  have hcl := (full_false hf).2.1
  have hfr := hc.ok.f1
  have hf0 := hc.ok.f0
  refine ⟨?_, (blueM_ok ka x hc.ok hf hm.1 hm.2).2⟩
  obtain ⟨s0, j1, j2, sL, d0, dL, dis⟩ := hx'
  show PB (blueM (deepM a) n a.len x c)
  unfold blueM
  simp only [Blu.of, Blu.first, Blu.fill, Blu.second, Blu.last, Bld.adds, List.foldl_cons, List.foldl_nil]
  generalize a.len = m at *
  have hr := (((hc.pf.region (n := m) (by omega) (by omega)).region (n := m) (by omega) (by omega)).region (n := m) (by omega) (by omega)).region (n := m) (by omega) (by omega)
  have i1 : ∀ u p : Int, 0 ≤ u → 0 ≤ p → u + m ≤ c.fr + m + m + m + m → p + m ≤ c.fr + m + m + m + m → (u + m ≤ p ∨ p + m ≤ u) → InsOk ⟨u, 1, p⟩ m (c.fr + m + m + m + m) := fun u p a1 a2 a3 a4 a5 => ⟨a1, by simp only; omega, by simp only; omega, by simp only; omega, a2, a4, by simp only; omega⟩
  have k1 := ((hr.add (s := gatherS c.fr x.src x.jump n) fun N b1 b2 => g_gather b2 ⟨hf0, by omega⟩ (by omega) s0 ⟨j1, j2⟩ (by omega) (.inl sL)).add (s := zeroS (c.fr + n) (m - n)) fun N b1 b2 => g_zero b2 ⟨by omega, by omega⟩ (by omega)).add (s := chirpS c.fr n n) fun N b1 b2 => g_chirp b2 ⟨hf0, by omega⟩ ⟨by omega, h2⟩
  have k2 := k1.rek ia ka (i1 c.fr (c.fr + m + m) (by omega) (by omega) (by omega) (by omega) (by omega))
  have k3 := k2.add (s := fillS (c.fr + m) m n) fun N b1 b2 => g_fill b2 ⟨by omega, by omega⟩ ⟨by omega, h2⟩ ⟨h3, hm.2⟩
  have k4 := k3.rek ia ka (i1 (c.fr + m) (c.fr + m + m + m) (by omega) (by omega) (by omega) (by omega) (by omega))
  have k5 := (k4.add (s := tmsS (c.fr + m + m) (c.fr + m + m + m) m) fun N b1 b2 => g_times b2 ⟨by omega, by omega⟩ (by omega) ⟨by omega, by omega⟩ (by omega)).add (s := conjS (c.fr + m + m) m) fun N b1 b2 => g_conj b2 ⟨by omega, by omega⟩ (by omega)
  have k6 := k5.rek ia ka (i1 (c.fr + m + m) c.fr (by omega) (by omega) (by omega) (by omega) (by omega))
  have k7 := (((k6.add (s := conjS c.fr n) fun N b1 b2 => g_conj b2 ⟨by omega, by omega⟩ (by omega)).add (s := overS c.fr n m) fun N b1 b2 => g_over b2 ⟨by omega, by omega⟩ (by omega) ⟨by omega, hm.2⟩).add (s := gatherS x.dst c.fr 1 n) fun N b1 b2 => g_gather b2 ⟨d0, by omega⟩ (by omega) (by omega) ⟨by omega, by omega⟩ (by omega) (.inr dL)).add (s := chirpS x.dst n n) fun N b1 b2 => g_chirp b2 ⟨d0, by omega⟩ ⟨by omega, h2⟩
  exact k7.pb
structure Hd3 (b c : Bld) : Prop where
  ln : c.ln = b.ln
  i0 : c.i0 = b.i0
  ou : c.ou = b.ou
theorem Hd3.refl (b : Bld) : Hd3 b b := ⟨rfl, rfl, rfl⟩
theorem Hd3.trans {a b c : Bld} (h : Hd3 a b) (g : Hd3 b c) : Hd3 a c := ⟨g.ln.trans h.ln, g.i0.trans h.i0, g.ou.trans h.ou⟩
theorem Hd3.add {a b : Bld} (h : Hd3 a b) (s : Stp) : Hd3 a (b.add s) := ⟨(add_ln _ _).trans h.ln, (add_i0 _ _).trans h.i0, (add_ou _ _).trans h.ou⟩
theorem Hd3.fold {F : Bld → Nat → Bld} (hF : ∀ b j, Hd3 b (F b j)) : ∀ (l : List Nat) (b : Bld), Hd3 b (l.foldl F b)
 | [], b => Hd3.refl b
 | j :: t, b => (hF b j).trans (Hd3.fold hF t _)
theorem deepM_hd {o : Ord} (h : GO o) : ∀ x b, Hd3 b (deepM o x b) := by
 have D : ∀ {o : Ord} {x : Inst} {b r : Bld}, (b.full = false → deepM o x b = { r with fr := b.fr } ∧ Hd3 b r) → Hd3 b (deepM o x b) := by
  intro o x b r h
  by_cases hf : b.full = true
  · rw [deepM_full hf]; exact Hd3.refl b
  ·
   obtain ⟨e, h1⟩ := h (by simpa using hf)
   rw [e]; exact ⟨h1.ln, h1.i0, h1.ou⟩
 induction h with
 | direct _ _ => exact fun x b => D fun hf => ⟨deepM_direct hf rfl, (Hd3.refl b).add _⟩
 | fly _ _ => exact fun x b => D fun hf => ⟨deepM_fly hf rfl, ((Hd3.refl b).add _).add _⟩
 | @times a b _ _ _ _ _ ia ib =>
  refine fun x c => D fun hf => ⟨deepM_times hf O O, ?_⟩
  have hJ : ∀ t (d : Bld) (j : Nat), Hd3 d (timesJ (deepM b) x a.len b.len t d j) := fun t d j => by
   unfold timesJ; simp only
   split
   · exact (ib _ _).add _
   · exact ib _ _
  unfold timesM
  split
  · exact (Hd3.fold (fun d j => hJ _ d j) _ _).add _
  ·
   simp only
   refine Hd3.trans (b := (c.region (a.len * b.len)).region a.len) ⟨O, O, O⟩ ((Hd3.fold (fun d j => hJ _ d j) _ _).trans (Hd3.fold (fun d k => ?_) _ _))
   unfold timesK
   exact (ia _ _).add _
 | @blue n a _ _ _ _ ia =>
  refine fun x c => D fun hf => ⟨deepM_blue hf O O, ?_⟩
  show Hd3 c (blueM (deepM a) n a.len x c)
  unfold blueM
  simp only [Blu.first, Blu.second, Blu.last, Bld.adds, List.foldl_cons, List.foldl_nil]
  refine Hd3.trans (b := (((c.region a.len).region a.len).region a.len).region a.len) ⟨O, O, O⟩ ?_
  exact ((((((((((((((((Hd3.refl _).add _).add _).add _).trans (ia _ _)).add _).trans (ia _ _)).add _).add _).trans (ia _ _)).add _).add _).add _).add _)))
theorem add_len {b : Bld} {s : Stp} (h : (b.add s).full = false) : 1 ≤ (b.add s).steps.length := by
 by_cases hf : b.full = true
 · rw [add_full hf, hf] at h; cases h
 · rw [add_not (by simpa using hf)]; simp
theorem deepM_len {o : Ord} (h : GO o) (x : Inst) (b : Bld) (hf : (deepM o x b).full = false) : 1 ≤ (deepM o x b).steps.length := by
 have hb : b.full = false := by
  by_cases hb : b.full = true
  · rw [deepM_full hb, hb] at hf; cases hf
  · simpa using hb
 cases h with
 | direct _ _ => rw [deepM_direct hb rfl] at hf ⊢; exact add_len hf
 | fly _ _ => rw [deepM_fly hb rfl] at hf ⊢; exact add_len hf
 | @times a c _ _ h2 h3 _ =>
  rw [deepM_times hb rfl rfl] at hf ⊢
  have e : ∀ r : Bld, (({ r with fr := b.fr } : Bld).full = false → 1 ≤ r.steps.length) → ({ r with fr := b.fr } : Bld).full = false → 1 ≤ ({ r with fr := b.fr } : Bld).steps.length := fun r h => h
  refine e _ (fun hf => ?_) hf
  revert hf
  unfold timesM
  split
  · exact fun hf => add_len hf
  ·
   simp only
   obtain ⟨k, hk⟩ : ∃ k, c.len.toNat = k + 1 := ⟨c.len.toNat - 1, by omega⟩
   rw [hk, List.range_succ, List.foldl_append]
   simp only [List.foldl_cons, List.foldl_nil]
   unfold timesK
   exact fun hf => add_len hf
 | @blue n a _ _ _ _ =>
  rw [deepM_blue hb rfl rfl] at hf ⊢
  have e : ∀ r : Bld, (({ r with fr := b.fr } : Bld).full = false → 1 ≤ r.steps.length) → ({ r with fr := b.fr } : Bld).full = false → 1 ≤ ({ r with fr := b.fr } : Bld).steps.length := fun r h => h
  refine e _ (fun hf => ?_) hf
  revert hf
  unfold blueM
  simp only [Blu.last, Bld.adds, List.foldl_cons, List.foldl_nil]
  exact fun hf => add_len hf
end Go.Tm
