/- Lemmas of this claim, joined by program. Walks of functions: steps. Conditions: each lemma names its own. -/
import Derived.Test.YtbmhbmlgndhpgaaGreatDoorA05
set_option linter.all false
namespace Go.Tm
open Go.RowKit Go.Proofs
theorem Rn.indexArr {P : Program} {n : Fr} {k : K} {w : World} {d : Option Nat} {ty : TypeId} {pos : String} {aft : Array Edge} {g : Option (Nat × Bool)} {t e : TypeId} {m sz : Nat} {x y : Operand} {ad : Addr} {q : IntKind} {i : Int} (ht : P.underlying t = some (.array m e)) (hz : ∀ w, (sizeOf e).run P w = .ok sz w)
    (hx : ev k x = some (.pointer (some ad))) (hy : ev k y = some (.int q i)) (h0 : 0 ≤ i) (h1 : i < m) :
    Rn P n k w { dst := d, op := .indexAddr t x y, type := ty, pos := pos, after := aft, guard := g } (.pointer (some (ad.add (i.toNat * sz)))) :=
  fun a ha => by simp [execOp, ha.eval hx, ha.eval hy, Instr.indexAt, run_underlying ht, asIntOf, Instr.sureAddr, h0, h1, hz]
def StT (w : World) : Prop := ∃ nm : Nat → ByteArray, ∀ i, i < 12 → CaR (· < 24) w ((⟨20, 0, none⟩ : Addr).add (i * 5)) [.string (nm i), .bool (kSrc i), .bool (kJmp i), .int .i64 (kN i), .bool (kK i)]
theorem StT.to {D : Nat → Prop} {w w' : World} (h : StT w) (c : Ch D w w') (hd : ∀ q, q < w.heap.size → q < 24 → isC w q → ¬ D q) : StT w' := by
  obtain ⟨nm, h⟩ := h
  exact ⟨nm, fun i hi => (h i hi).to c hd⟩
theorem StT.keep {w w' : World} (h : StT w) (c : Ch No w w') : StT w' := h.to c fun _ _ _ _ => id
set_option maxRecDepth 100000 in
theorem steps_from (b : Bool) (x lo hi : Int) (w : World) :
  Calls Tryz.prog 119 #[.bool b, .int .i64 x, .int .i64 lo, .int .i64 hi] w (Ret (fun v w' => v = .bool (fromM b x lo hi) ∧ w = w')) := by
 refine calls_of_VC (args := [.bool b, .int .i64 x, .int .i64 lo, .int .i64 hi]) Tryz.func119 rfl Tryz.ntmps119 rfl (VC.seq (VC.region (VO.mv (Rn.assign rfl) rfl rfl rfl (VO.nil (VQ.then_code (VC.seq (VC.seq ?_)))))))
 refine VC.region (VO.mv (Rn.move rfl) rfl rfl rfl (VO.mv (Rn.not rfl) rfl rfl rfl (VO.nil (VQ.then_code (VC.cond rfl (fun hc1 => ?_) (fun hc1 => ?_))))))
 ·
  try simp only [Bool.and_eq_true, Bool.or_eq_true, Bool.not_eq_true', Bool.not_eq_false', Bool.and_eq_false_iff, Bool.or_eq_false_iff, decide_eq_true_eq, decide_eq_false_iff_not] at hc1
  refine VC.seq (VC.region (VO.mv (Rn.move rfl) rfl rfl rfl (VO.mv (Rn.eql rfl rfl) rfl rfl rfl (VO.mv (Rn.assign rfl) rfl rfl rfl (VO.nil (VQ.then_code (VC.ret ?_)))))))
  refine VQ.then_ret (VQ.ret1 rfl rfl (Ret.mk (⟨?_, rfl⟩)))
  first | (simp_all [fromM]; done) | (cases b <;> simp_all [fromM])
 ·
  try simp only [Bool.and_eq_true, Bool.or_eq_true, Bool.not_eq_true', Bool.not_eq_false', Bool.and_eq_false_iff, Bool.or_eq_false_iff, decide_eq_true_eq, decide_eq_false_iff_not] at hc1
  refine VC.skip (VQ.then_code (VC.seq (VC.region (VO.mv (Rn.move rfl) rfl rfl rfl (VO.mv (Rn.move rfl) rfl rfl rfl (VO.mv (Rn.geq rfl rfl) rfl rfl rfl (VO.mv (Rn.move rfl) rfl rfl rfl ?_)))))))
  refine VO.andJoin (b := _) 4 16 20 rfl (fun hc2 Jhc2 => by
    try simp only [Bool.and_eq_true, Bool.or_eq_true, Bool.not_eq_true', Bool.not_eq_false', Bool.and_eq_false_iff, Bool.or_eq_false_iff, decide_eq_true_eq, decide_eq_false_iff_not] at hc2
    refine VO.mv (Rn.move rfl) rfl rfl rfl (VO.mv (Rn.move rfl) rfl rfl rfl (VO.mv (Rn.leq rfl rfl) rfl rfl rfl (VO.mv (Rn.pick_true rfl rfl) rfl rfl rfl ?_)))
    exact (VO.fg rfl (VO.fg rfl (VO.fg rfl Jhc2)))) (fun hc2 Jhc2 => by
    refine VO.skip rfl rfl rfl (VO.skip rfl rfl rfl (VO.skip rfl rfl rfl (VO.mv (Rn.pick_false rfl rfl) rfl rfl rfl ?_)))
    exact (VO.fg rfl (VO.fg rfl (VO.fg rfl Jhc2)))) ?_
  refine VO.mv (Rn.assign rfl) rfl rfl rfl (VO.nil (VQ.then_code (VC.ret (VQ.ret1 rfl rfl (Ret.mk (⟨?_, rfl⟩))))))
  first | (simp_all [fromM]; done) | (cases b <;> simp_all [fromM])
set_option maxRecDepth 100000 in
theorem steps_Name (n : Int) (w : World) (st : StT w) :
  Calls Tryz.prog 118 #[.int .i64 n] w (Ret (fun v w' => ∃ s, v = .tuple #[.string s, .bool (decide (1 ≤ n ∧ n ≤ 11))] ∧ w = w')) := by
 refine calls_of_VC (args := [.int .i64 n]) Tryz.func118 rfl Tryz.ntmps118 rfl (VC.seq (VC.region (VO.mv (Rn.assign rfl) rfl rfl rfl (VO.mv (Rn.assign rfl) rfl rfl rfl (VO.nil (VQ.then_code (VC.seq ?_)))))))
 refine VC.seq (VC.region (VO.mv (Rn.move rfl) rfl rfl rfl (VO.mv (Rn.lss rfl rfl) rfl rfl rfl (VO.mv (Rn.move rfl) rfl rfl rfl ?_))))
 refine VO.orJoin (b := _) 3 6 9 rfl (fun hc1 Jhc1 => by
   refine VO.skip rfl rfl rfl (VO.skip rfl rfl rfl (VO.mv (Rn.pick_true rfl rfl) rfl rfl rfl ?_))
   exact (VO.fg rfl (VO.fg rfl Jhc1))) (fun hc1 Jhc1 => by
   try simp only [Bool.and_eq_true, Bool.or_eq_true, Bool.not_eq_true', Bool.not_eq_false', Bool.and_eq_false_iff, Bool.or_eq_false_iff, decide_eq_true_eq, decide_eq_false_iff_not] at hc1
   refine VO.mv (Rn.move rfl) rfl rfl rfl (VO.mv (Rn.gtr rfl rfl) rfl rfl rfl (VO.mv (Rn.pick_false rfl rfl) rfl rfl rfl ?_))
   exact (VO.fg rfl (VO.fg rfl Jhc1))) ?_
 refine VO.nil (VQ.then_code (VC.cond rfl (fun hc2 => ?_) (fun hc2 => ?_)))
 ·
  try simp only [Bool.and_eq_true, Bool.or_eq_true, Bool.not_eq_true', Bool.not_eq_false', Bool.and_eq_false_iff, Bool.or_eq_false_iff, decide_eq_true_eq, decide_eq_false_iff_not] at hc2
  refine VC.seq (VC.region (VO.mv (Rn.assign rfl) rfl rfl rfl (VO.mv (Rn.assign rfl) rfl rfl rfl (VO.nil (VQ.then_code (VC.ret (VQ.then_ret ?_)))))))
  refine VQ.ret2 rfl rfl rfl (Ret.mk ?_)
  exact ⟨_, by rw [decide_eq_false (by omega)], rfl⟩
 ·
  try simp only [Bool.and_eq_true, Bool.or_eq_true, Bool.not_eq_true', Bool.not_eq_false', Bool.and_eq_false_iff, Bool.or_eq_false_iff, decide_eq_true_eq, decide_eq_false_iff_not] at hc2
  refine VC.skip (VQ.then_code (VC.seq ?_))
  obtain ⟨nm, ht⟩ := st
  have ka := ht n.toNat (by omega)
  refine VC.region (VO.mv (Rn.move rfl) rfl rfl rfl (VO.mv (Rn.indexArr Tryz.underlying180 Tryz.sizeOf179 rfl rfl (by omega) (by omega)) rfl rfl rfl (VO.mv (Rn.fieldA Tryz.underlying179 rfl Tryz.sizeOf9 rfl rfl rfl) rfl rfl rfl (VO.mv (Rn.load Tryz.isAgg9 rfl (ka.1 0 _ rfl)) rfl rfl rfl (VO.mv (Rn.assign rfl) rfl rfl rfl (VO.mv (Rn.assign rfl) rfl rfl rfl (VO.nil ?_)))))))
  refine VQ.then_code (VC.ret (VQ.ret2 rfl rfl rfl (Ret.mk ?_)))
  exact ⟨_, by rw [decide_eq_true (by omega)], rfl⟩
set_option maxHeartbeats 4000000 in
set_option maxRecDepth 100000 in
theorem steps_form (s : Stp) (w : World) (st : StT w) (hn : -1000000000 ≤ s.n ∧ s.n ≤ 1000000000) :
  Calls Tryz.prog 87 #[.agg #[.int .i64 s.op, .int .i64 s.dst, .int .i64 s.src, .int .i64 s.jump, .int .i64 s.count, .int .i64 s.n, .int .i64 s.k]] w (Ret (fun v w' => v = .bool (formM s) ∧ Ch No w w')) := by
 refine calls_of_VC (args := [.agg #[.int .i64 s.op, .int .i64 s.dst, .int .i64 s.src, .int .i64 s.jump, .int .i64 s.count, .int .i64 s.n, .int .i64 s.k]]) Tryz.func87 rfl Tryz.ntmps87 rfl (VC.seq (VC.region (VO.wk (Wk.box rfl) rfl rfl rfl ?_)))
 rintro _ w1 ⟨p1, rfl, N1⟩
 have c1 := N1.ch
 have e1 := N1.p; have z1 := N1.size
 have b1 := Bk.new N1
 refine VO.mv (Rn.assign rfl) rfl rfl rfl (VO.nil (VQ.then_code (VC.seq (VC.seq (VC.region (VO.mv (Rn.field Tryz.underlying119 rfl Tryz.sizeOf3 rfl rfl rfl) rfl rfl rfl (VO.mv (Rn.load Tryz.isAgg3 rfl (b1.cell rfl)) rfl rfl rfl ?_)))))))
 have st_1 := st.keep c1
 refine VO.wk (Wk.call Tryz.call118 rfl (steps_Name _ _ st_1)) rfl rfl rfl ?_
 rintro _ _ ⟨ns2, rfl, rfl⟩
 refine VO.mv (Rn.move rfl) rfl rfl rfl (VO.mv (Rn.extract rfl rfl) rfl rfl rfl (VO.mv (Rn.extract rfl rfl) rfl rfl rfl (VO.mv (Rn.assign rfl) rfl rfl rfl (VO.mv (Rn.assign rfl) rfl rfl rfl (VO.nil (VQ.then_code (VC.seq ?_)))))))
 refine VC.region (VO.mv (Rn.move rfl) rfl rfl rfl (VO.mv (Rn.not_if rfl) rfl rfl rfl (VO.nil (VQ.then_code (VC.cond_if rfl (fun hc1 => ?_) (fun hc1 => ?_))))))
 ·
  refine VC.seq (VC.region (VO.mv (Rn.assign rfl) rfl rfl rfl (VO.nil (VQ.then_code (VC.ret (VQ.then_ret (VQ.ret1 rfl rfl ?_)))))))
  refine Ret.mk ?_
  have CH_1 := (Ch.refl (No) w).and c1
  refine ⟨?_, CH_1⟩
  try clear ka ht
  first | (simp_all [formM]; done) | (simp_all [formM]; omega)
 ·
  refine VC.skip (VQ.then_code (VC.seq ?_))
  obtain ⟨nm, ht⟩ := st_1
  have ka := ht s.op.toNat (by omega)
  refine VC.region (VO.mv (Rn.field Tryz.underlying119 rfl Tryz.sizeOf3 rfl rfl rfl) rfl rfl rfl (VO.mv (Rn.load Tryz.isAgg3 rfl (b1.cell rfl)) rfl rfl rfl (VO.mv (Rn.indexArr Tryz.underlying180 Tryz.sizeOf179 rfl rfl (by omega) (by omega)) rfl rfl rfl (VO.mv (Rn.loads Tryz.isAgg179 Tryz.sizeOf179 rfl rfl ka.1) rfl rfl rfl (VO.wk (Wk.alloc Tryz.zeroValue179) rfl rfl rfl ?_)))))
  rintro _ w2 ⟨p2, rfl, N2⟩
  have c2 := N2.ch
  have e2 := N2.p; have z2 := N2.size
  have b5 := Bk.new N2
  refine VO.wk0 (Wk.puts Tryz.sizeOf179 rfl rfl rfl rfl b5 (Nat.le_of_ble_eq_true rfl)) rfl rfl ?_
  intro _ w3 Z3
  have c3 := Z3.ch; have z3 := Z3.size
  have b5_3 := Bk.put Z3
  refine VO.nil (VQ.then_code (VC.seq (VC.region (VO.mv (Rn.assign rfl) rfl rfl rfl (VO.nil (VQ.then_code (VC.seq ?_)))))))
  refine VC.seq (VC.region (VO.mv (Rn.field Tryz.underlying119 rfl Tryz.sizeOf3 rfl rfl rfl) rfl rfl rfl ?_))
  have cc_1_3 : Ch No w1 w3 := (Ch.then (E := No) c2 c3 (by intro q h1 h2; rcases h2 with h2 | h2 <;> first | exact h2 | (exfalso; omega)))
  have b1_3 := b1.keep cc_1_3
  refine VO.mv (Rn.load Tryz.isAgg3 rfl (b1_3.cell rfl)) rfl rfl rfl (VO.mv (Rn.eql rfl rfl) rfl rfl rfl (VO.nil (VQ.then_code (VC.cond_if rfl (fun hc2 => ?_) (fun hc2 => ?_)))))
  ·
   refine VC.region (VO.mv (Rn.assign rfl) rfl rfl rfl (VO.nil (VQ.then_code (VC.seq (VC.region (VO.mv (Rn.field Tryz.underlying119 rfl Tryz.sizeOf3 rfl rfl rfl) rfl rfl rfl (VO.mv (Rn.load Tryz.isAgg3 rfl (b1_3.cell rfl)) rfl rfl rfl ?_)))))))
   refine VO.wk (Wk.call Tryz.call119 rfl (steps_from _ _ _ _ _)) rfl rfl rfl ?_
   rintro _ _ ⟨rfl, rfl⟩
   refine VO.mv (Rn.move rfl) rfl rfl rfl (VO.split 26 rfl (fun hc3 => ?_) (fun hc3 => ?_))
   ·
    refine VO.mv (Rn.field Tryz.underlying119 rfl Tryz.sizeOf3 rfl rfl rfl) rfl rfl rfl (VO.mv (Rn.load Tryz.isAgg3 rfl (b1_3.cell rfl)) rfl rfl rfl (VO.wk (Wk.call Tryz.call119 rfl (steps_from _ _ _ _ _)) rfl rfl rfl ?_))
    rintro _ _ ⟨rfl, rfl⟩
    refine VO.mv (Rn.pick_true rfl rfl) rfl rfl rfl (VO.mv (Rn.move rfl) rfl rfl rfl (VO.split 31 rfl (fun hc4 => ?_) (fun hc4 => ?_)))
    ·
     refine VO.mv (Rn.field Tryz.underlying179 rfl Tryz.sizeOf4 rfl rfl rfl) rfl rfl rfl (VO.mv (Rn.load Tryz.isAgg4 rfl (b5_3.cell rfl)) rfl rfl rfl (VO.mv (Rn.field Tryz.underlying119 rfl Tryz.sizeOf3 rfl rfl rfl) rfl rfl rfl (VO.mv (Rn.load Tryz.isAgg3 rfl (b1_3.cell rfl)) rfl rfl rfl (VO.wk (Wk.call Tryz.call119 rfl (steps_from _ _ _ _ _)) rfl rfl rfl ?_))))
     rintro _ _ ⟨rfl, rfl⟩
     refine VO.mv (Rn.pick_true rfl rfl) rfl rfl rfl (VO.mv (Rn.move rfl) rfl rfl rfl (VO.split 38 rfl (fun hc5 => ?_) (fun hc5 => ?_)))
     ·
      refine VO.mv (Rn.field Tryz.underlying179 rfl Tryz.sizeOf4 rfl rfl rfl) rfl rfl rfl (VO.mv (Rn.load Tryz.isAgg4 rfl (b5_3.cell rfl)) rfl rfl rfl (VO.mv (Rn.field Tryz.underlying119 rfl Tryz.sizeOf3 rfl rfl rfl) rfl rfl rfl (VO.mv (Rn.load Tryz.isAgg3 rfl (b1_3.cell rfl)) rfl rfl rfl (VO.wk (Wk.call Tryz.call119 rfl (steps_from _ _ _ _ _)) rfl rfl rfl ?_))))
      rintro _ _ ⟨rfl, rfl⟩
      refine VO.mv (Rn.pick_true rfl rfl) rfl rfl rfl (VO.mv (Rn.move rfl) rfl rfl rfl (VO.split 45 rfl (fun hc6 => ?_) (fun hc6 => ?_)))
      ·
       refine VO.mv (Rn.field Tryz.underlying179 rfl Tryz.sizeOf3 rfl rfl rfl) rfl rfl rfl (VO.mv (Rn.load Tryz.isAgg3 rfl (b5_3.cell rfl)) rfl rfl rfl (VO.mv (Rn.gtr rfl rfl) rfl rfl rfl (VO.mv (Rn.field Tryz.underlying119 rfl Tryz.sizeOf3 rfl rfl rfl) rfl rfl rfl (VO.mv (Rn.load Tryz.isAgg3 rfl (b1_3.cell rfl)) rfl rfl rfl (VO.mv (Rn.move rfl) rfl rfl rfl (VO.mv (Rn.field Tryz.underlying179 rfl Tryz.sizeOf3 rfl rfl rfl) rfl rfl rfl (VO.mv (Rn.load Tryz.isAgg3 rfl (b5_3.cell rfl)) rfl rfl rfl ?_)))))))
       refine VO.wk (Wk.call Tryz.call119 rfl (steps_from _ _ _ _ _)) rfl rfl rfl ?_
       rintro _ _ ⟨rfl, rfl⟩
       refine VO.mv (Rn.pick_true rfl rfl) rfl rfl rfl (VO.mv (Rn.move rfl) rfl rfl rfl (VO.split 56 rfl (fun hc7 => ?_) (fun hc7 => ?_)))
       ·
        refine VO.mv (Rn.field Tryz.underlying179 rfl Tryz.sizeOf4 rfl rfl rfl) rfl rfl rfl (VO.mv (Rn.load Tryz.isAgg4 rfl (b5_3.cell rfl)) rfl rfl rfl (VO.mv (Rn.field Tryz.underlying119 rfl Tryz.sizeOf3 rfl rfl rfl) rfl rfl rfl (VO.mv (Rn.load Tryz.isAgg3 rfl (b1_3.cell rfl)) rfl rfl rfl (VO.mv (Rn.field Tryz.underlying119 rfl Tryz.sizeOf3 rfl rfl rfl) rfl rfl rfl (VO.mv (Rn.load Tryz.isAgg3 rfl (b1_3.cell rfl)) rfl rfl rfl ?_)))))
        refine VO.mv (Rn.sub rfl rfl (by rw [IntKind.wrap_i64]; omega)) rfl rfl rfl ?_
        refine VO.wk (Wk.call Tryz.call119 rfl (steps_from _ _ _ _ _)) rfl rfl rfl ?_
        rintro _ _ ⟨rfl, rfl⟩
        refine VO.mv (Rn.pick_true rfl rfl) rfl rfl rfl (VO.mv (Rn.assign rfl) rfl rfl rfl (VO.nil (VQ.then_code (VC.seq (VC.seq (VC.region (VO.mv (Rn.move rfl) rfl rfl rfl ?_)))))))
        refine VO.mv (Rn.not rfl) rfl rfl rfl (VO.nil (VQ.then_code (VC.cond rfl (fun hc8 => ?_) (fun hc8 => ?_))))
        ·
         try simp only [Bool.and_eq_true, Bool.or_eq_true, Bool.not_eq_true', Bool.not_eq_false', Bool.and_eq_false_iff, Bool.or_eq_false_iff, decide_eq_true_eq, decide_eq_false_iff_not] at hc8
         refine VC.seq (VC.region (VO.mv (Rn.assign rfl) rfl rfl rfl (VO.nil (VQ.then_code (VC.ret (VQ.then_ret (VQ.ret1 rfl rfl ?_)))))))
         refine Ret.mk ?_
         have cc_0_3 : Ch No w w3 := (Ch.then (E := No) (c1.and c2) c3 (by intro q h1 h2; rcases h2 with h2 | h2 <;> first | exact h2 | (exfalso; omega)))
         have CH_3 := (Ch.refl (No) w).and cc_0_3
         refine ⟨?_, CH_3⟩
         try clear ka ht
         first | (simp_all [formM]; done) | (simp_all [formM]; omega)
        ·
         try simp only [Bool.and_eq_true, Bool.or_eq_true, Bool.not_eq_true', Bool.not_eq_false', Bool.and_eq_false_iff, Bool.or_eq_false_iff, decide_eq_true_eq, decide_eq_false_iff_not] at hc8
         refine VC.skip (VQ.then_code (VC.seq (VC.seq (VC.region (VO.mv (Rn.field Tryz.underlying119 rfl Tryz.sizeOf3 rfl rfl rfl) rfl rfl rfl (VO.mv (Rn.load Tryz.isAgg3 rfl (b1_3.cell rfl)) rfl rfl rfl (VO.nil ?_)))))))
         refine VQ.then_code (VC.block (VC.seq (VC.region (VO.mv (Rn.eql rfl rfl) rfl rfl rfl (VO.mv (Rn.assign rfl) rfl rfl rfl (VO.nil (VQ.then_code ?_)))))))
         refine VC.cond_if rfl (fun hc9 => ?_) (fun hc9 => ?_)
         ·
          refine VC.seq (VC.region (VO.mv (Rn.field Tryz.underlying119 rfl Tryz.sizeOf3 rfl rfl rfl) rfl rfl rfl (VO.mv (Rn.load Tryz.isAgg3 rfl (b1_3.cell rfl)) rfl rfl rfl (VO.mv (Rn.field Tryz.underlying119 rfl Tryz.sizeOf3 rfl rfl rfl) rfl rfl rfl (VO.mv (Rn.load Tryz.isAgg3 rfl (b1_3.cell rfl)) rfl rfl rfl (VO.mv (Rn.leq rfl rfl) rfl rfl rfl (VO.mv (Rn.assign rfl) rfl rfl rfl ?_)))))))
          refine VO.nil (VQ.then_code (VC.ret (VQ.block_ret (VQ.then_ret (VQ.ret1 rfl rfl (Ret.mk ?_))))))
          have cc_0_3 : Ch No w w3 := (Ch.then (E := No) (c1.and c2) c3 (by intro q h1 h2; rcases h2 with h2 | h2 <;> first | exact h2 | (exfalso; omega)))
          have CH_3 := (Ch.refl (No) w).and cc_0_3
          refine ⟨?_, CH_3⟩
          try clear ka ht
          first | (simp_all [formM]; done) | (simp_all [formM]; omega)
         ·
          refine VC.seq (VC.seq (VC.region (VO.mv (Rn.eql rfl rfl) rfl rfl rfl (VO.mv (Rn.assign rfl) rfl rfl rfl (VO.nil (VQ.then_code (VC.cond_if rfl (fun hc10 => ?_) (fun hc10 => ?_))))))))
          ·
           refine VC.skip (VQ.then_code (VC.cond_if rfl (fun hc11 => ?_) (fun hc11 => ?_)))
           ·
            refine VC.seq (VC.region (VO.mv (Rn.field Tryz.underlying119 rfl Tryz.sizeOf3 rfl rfl rfl) rfl rfl rfl (VO.mv (Rn.load Tryz.isAgg3 rfl (b1_3.cell rfl)) rfl rfl rfl (VO.mv (Rn.field Tryz.underlying119 rfl Tryz.sizeOf3 rfl rfl rfl) rfl rfl rfl (VO.mv (Rn.load Tryz.isAgg3 rfl (b1_3.cell rfl)) rfl rfl rfl (VO.mv (Rn.leq rfl rfl) rfl rfl rfl (VO.mv (Rn.assign rfl) rfl rfl rfl ?_)))))))
            refine VO.nil (VQ.then_code (VC.ret (VQ.block_ret (VQ.then_ret (VQ.ret1 rfl rfl (Ret.mk ?_))))))
            have cc_0_3 : Ch No w w3 := (Ch.then (E := No) (c1.and c2) c3 (by intro q h1 h2; rcases h2 with h2 | h2 <;> first | exact h2 | (exfalso; omega)))
            have CH_3 := (Ch.refl (No) w).and cc_0_3
            refine ⟨?_, CH_3⟩
            try clear ka ht
            first | (simp_all [formM]; done) | (simp_all [formM]; omega)
           ·
            refine VC.seq (VC.region (VO.mv (Rn.eql rfl rfl) rfl rfl rfl (VO.mv (Rn.assign rfl) rfl rfl rfl (VO.nil (VQ.then_code (VC.cond_if rfl (fun hc12 => ?_) (fun hc12 => ?_)))))))
            ·
             refine VC.seq (VC.region (VO.mv (Rn.field Tryz.underlying119 rfl Tryz.sizeOf3 rfl rfl rfl) rfl rfl rfl (VO.mv (Rn.load Tryz.isAgg3 rfl (b1_3.cell rfl)) rfl rfl rfl (VO.mv (Rn.field Tryz.underlying119 rfl Tryz.sizeOf3 rfl rfl rfl) rfl rfl rfl (VO.mv (Rn.load Tryz.isAgg3 rfl (b1_3.cell rfl)) rfl rfl rfl ?_)))))
             refine VO.mv (Rn.mul rfl rfl (by rw [IntKind.wrap_i64]; omega)) rfl rfl rfl ?_
             refine VO.mv (Rn.sub rfl rfl (by rw [IntKind.wrap_i64]; omega)) rfl rfl rfl ?_
             refine VO.mv (Rn.geq rfl rfl) rfl rfl rfl (VO.mv (Rn.move rfl) rfl rfl rfl ?_)
             refine VO.andJoin (b := _) 4 94 98 rfl (fun hc13 Jhc13 => by
               try simp only [Bool.and_eq_true, Bool.or_eq_true, Bool.not_eq_true', Bool.not_eq_false', Bool.and_eq_false_iff, Bool.or_eq_false_iff, decide_eq_true_eq, decide_eq_false_iff_not] at hc13
               refine VO.mv (Rn.field Tryz.underlying119 rfl Tryz.sizeOf3 rfl rfl rfl) rfl rfl rfl (VO.mv (Rn.load Tryz.isAgg3 rfl (b1_3.cell rfl)) rfl rfl rfl (VO.mv (Rn.leq rfl rfl) rfl rfl rfl (VO.mv (Rn.pick_true rfl rfl) rfl rfl rfl ?_)))
               exact (VO.fg rfl (VO.fg rfl (VO.fg rfl Jhc13)))) (fun hc13 Jhc13 => by
               refine VO.skip rfl rfl rfl (VO.skip rfl rfl rfl (VO.skip rfl rfl rfl (VO.mv (Rn.pick_false rfl rfl) rfl rfl rfl ?_)))
               exact (VO.fg rfl (VO.fg rfl (VO.fg rfl Jhc13)))) ?_
             refine VO.mv (Rn.assign rfl) rfl rfl rfl (VO.nil (VQ.then_code (VC.ret (VQ.block_ret (VQ.then_ret (VQ.ret1 rfl rfl (Ret.mk ?_)))))))
             have cc_0_3 : Ch No w w3 := (Ch.then (E := No) (c1.and c2) c3 (by intro q h1 h2; rcases h2 with h2 | h2 <;> first | exact h2 | (exfalso; omega)))
             have CH_3 := (Ch.refl (No) w).and cc_0_3
             refine ⟨?_, CH_3⟩
             try clear ka ht
             first | (simp_all [formM]; done) | (simp_all [formM]; omega)
            ·
             refine VC.skip (VQ.block_normal (VQ.then_code (VC.seq (VC.region (VO.mv (Rn.assign rfl) rfl rfl rfl (VO.nil (VQ.then_code ?_)))))))
             refine VC.ret (VQ.ret1 rfl rfl (Ret.mk ?_))
             have cc_0_3 : Ch No w w3 := (Ch.then (E := No) (c1.and c2) c3 (by intro q h1 h2; rcases h2 with h2 | h2 <;> first | exact h2 | (exfalso; omega)))
             have CH_3 := (Ch.refl (No) w).and cc_0_3
             refine ⟨?_, CH_3⟩
             try clear ka ht
             first | (simp_all [formM]; done) | (simp_all [formM]; omega)
          ·
           refine VC.region (VO.mv (Rn.eql rfl rfl) rfl rfl rfl (VO.mv (Rn.assign rfl) rfl rfl rfl (VO.nil (VQ.then_code (VC.cond_if rfl (fun hc14 => ?_) (fun hc14 => ?_))))))
           ·
            refine VC.seq (VC.region (VO.mv (Rn.field Tryz.underlying119 rfl Tryz.sizeOf3 rfl rfl rfl) rfl rfl rfl (VO.mv (Rn.load Tryz.isAgg3 rfl (b1_3.cell rfl)) rfl rfl rfl (VO.mv (Rn.field Tryz.underlying119 rfl Tryz.sizeOf3 rfl rfl rfl) rfl rfl rfl (VO.mv (Rn.load Tryz.isAgg3 rfl (b1_3.cell rfl)) rfl rfl rfl (VO.mv (Rn.leq rfl rfl) rfl rfl rfl (VO.mv (Rn.assign rfl) rfl rfl rfl ?_)))))))
            refine VO.nil (VQ.then_code (VC.ret (VQ.block_ret (VQ.then_ret (VQ.ret1 rfl rfl (Ret.mk ?_))))))
            have cc_0_3 : Ch No w w3 := (Ch.then (E := No) (c1.and c2) c3 (by intro q h1 h2; rcases h2 with h2 | h2 <;> first | exact h2 | (exfalso; omega)))
            have CH_3 := (Ch.refl (No) w).and cc_0_3
            refine ⟨?_, CH_3⟩
            try clear ka ht
            first | (simp_all [formM]; done) | (simp_all [formM]; omega)
           ·
            refine VC.seq (VC.region (VO.mv (Rn.eql rfl rfl) rfl rfl rfl (VO.mv (Rn.assign rfl) rfl rfl rfl (VO.nil (VQ.then_code (VC.cond_if rfl (fun hc15 => ?_) (fun hc15 => ?_)))))))
            ·
             refine VC.seq (VC.region (VO.mv (Rn.field Tryz.underlying119 rfl Tryz.sizeOf3 rfl rfl rfl) rfl rfl rfl (VO.mv (Rn.load Tryz.isAgg3 rfl (b1_3.cell rfl)) rfl rfl rfl (VO.mv (Rn.field Tryz.underlying119 rfl Tryz.sizeOf3 rfl rfl rfl) rfl rfl rfl (VO.mv (Rn.load Tryz.isAgg3 rfl (b1_3.cell rfl)) rfl rfl rfl ?_)))))
             refine VO.mv (Rn.mul rfl rfl (by rw [IntKind.wrap_i64]; omega)) rfl rfl rfl ?_
             refine VO.mv (Rn.sub rfl rfl (by rw [IntKind.wrap_i64]; omega)) rfl rfl rfl ?_
             refine VO.mv (Rn.geq rfl rfl) rfl rfl rfl (VO.mv (Rn.move rfl) rfl rfl rfl ?_)
             refine VO.andJoin (b := _) 4 94 98 rfl (fun hc16 Jhc16 => by
               try simp only [Bool.and_eq_true, Bool.or_eq_true, Bool.not_eq_true', Bool.not_eq_false', Bool.and_eq_false_iff, Bool.or_eq_false_iff, decide_eq_true_eq, decide_eq_false_iff_not] at hc16
               refine VO.mv (Rn.field Tryz.underlying119 rfl Tryz.sizeOf3 rfl rfl rfl) rfl rfl rfl (VO.mv (Rn.load Tryz.isAgg3 rfl (b1_3.cell rfl)) rfl rfl rfl (VO.mv (Rn.leq rfl rfl) rfl rfl rfl (VO.mv (Rn.pick_true rfl rfl) rfl rfl rfl ?_)))
               exact (VO.fg rfl (VO.fg rfl (VO.fg rfl Jhc16)))) (fun hc16 Jhc16 => by
               refine VO.skip rfl rfl rfl (VO.skip rfl rfl rfl (VO.skip rfl rfl rfl (VO.mv (Rn.pick_false rfl rfl) rfl rfl rfl ?_)))
               exact (VO.fg rfl (VO.fg rfl (VO.fg rfl Jhc16)))) ?_
             refine VO.mv (Rn.assign rfl) rfl rfl rfl (VO.nil (VQ.then_code (VC.ret (VQ.block_ret (VQ.then_ret (VQ.ret1 rfl rfl (Ret.mk ?_)))))))
             have cc_0_3 : Ch No w w3 := (Ch.then (E := No) (c1.and c2) c3 (by intro q h1 h2; rcases h2 with h2 | h2 <;> first | exact h2 | (exfalso; omega)))
             have CH_3 := (Ch.refl (No) w).and cc_0_3
             refine ⟨?_, CH_3⟩
             try clear ka ht
             first | (simp_all [formM]; done) | (simp_all [formM]; omega)
            ·
             refine VC.skip (VQ.block_normal (VQ.then_code (VC.seq (VC.region (VO.mv (Rn.assign rfl) rfl rfl rfl (VO.nil (VQ.then_code ?_)))))))
             refine VC.ret (VQ.ret1 rfl rfl (Ret.mk ?_))
             have cc_0_3 : Ch No w w3 := (Ch.then (E := No) (c1.and c2) c3 (by intro q h1 h2; rcases h2 with h2 | h2 <;> first | exact h2 | (exfalso; omega)))
             have CH_3 := (Ch.refl (No) w).and cc_0_3
             refine ⟨?_, CH_3⟩
             try clear ka ht
             first | (simp_all [formM]; done) | (simp_all [formM]; omega)
       ·
        refine VO.skip rfl rfl rfl (VO.skip rfl rfl rfl (VO.skip rfl rfl rfl (VO.skip rfl rfl rfl (VO.skip rfl rfl rfl (VO.skip rfl rfl rfl (VO.skip rfl rfl rfl (VO.skip rfl rfl rfl ?_)))))))
        refine VO.mv (Rn.pick_false rfl rfl) rfl rfl rfl (VO.mv (Rn.assign rfl) rfl rfl rfl (VO.nil (VQ.then_code (VC.seq (VC.seq (VC.region (VO.mv (Rn.move rfl) rfl rfl rfl ?_)))))))
        refine VO.mv (Rn.not rfl) rfl rfl rfl (VO.nil (VQ.then_code (VC.cond_true rfl (VC.seq (VC.region (VO.mv (Rn.assign rfl) rfl rfl rfl (VO.nil ?_)))))))
        refine VQ.then_code (VC.ret (VQ.then_ret (VQ.ret1 rfl rfl (Ret.mk ?_))))
        have cc_0_3 : Ch No w w3 := (Ch.then (E := No) (c1.and c2) c3 (by intro q h1 h2; rcases h2 with h2 | h2 <;> first | exact h2 | (exfalso; omega)))
        have CH_3 := (Ch.refl (No) w).and cc_0_3
        refine ⟨?_, CH_3⟩
        try clear ka ht
        first | (simp_all [formM]; done) | (simp_all [formM]; omega)
      ·
       refine VO.skip rfl rfl rfl (VO.skip rfl rfl rfl (VO.skip rfl rfl rfl (VO.skip rfl rfl rfl (VO.skip rfl rfl rfl (VO.skip rfl rfl rfl (VO.skip rfl rfl rfl (VO.skip rfl rfl rfl ?_)))))))
       refine VO.skip rfl rfl rfl (VO.mv (Rn.pick_false rfl rfl) rfl rfl rfl (VO.mv (Rn.move rfl) rfl rfl rfl (VO.skip rfl rfl rfl (VO.skip rfl rfl rfl (VO.skip rfl rfl rfl (VO.skip rfl rfl rfl (VO.skip rfl rfl rfl ?_)))))))
       refine VO.skip rfl rfl rfl (VO.skip rfl rfl rfl (VO.skip rfl rfl rfl (VO.mv (Rn.pick_false rfl rfl) rfl rfl rfl (VO.mv (Rn.assign rfl) rfl rfl rfl (VO.nil (VQ.then_code (VC.seq ?_)))))))
       refine VC.seq (VC.region (VO.mv (Rn.move rfl) rfl rfl rfl (VO.mv (Rn.not rfl) rfl rfl rfl (VO.nil (VQ.then_code (VC.cond_true rfl (VC.seq ?_)))))))
       refine VC.region (VO.mv (Rn.assign rfl) rfl rfl rfl (VO.nil (VQ.then_code (VC.ret (VQ.then_ret (VQ.ret1 rfl rfl (Ret.mk ?_)))))))
       have cc_0_3 : Ch No w w3 := (Ch.then (E := No) (c1.and c2) c3 (by intro q h1 h2; rcases h2 with h2 | h2 <;> first | exact h2 | (exfalso; omega)))
       have CH_3 := (Ch.refl (No) w).and cc_0_3
       refine ⟨?_, CH_3⟩
       try clear ka ht
       first | (simp_all [formM]; done) | (simp_all [formM]; omega)
     ·
      refine VO.skip rfl rfl rfl (VO.skip rfl rfl rfl (VO.skip rfl rfl rfl (VO.skip rfl rfl rfl (VO.skip rfl rfl rfl (VO.mv (Rn.pick_false rfl rfl) rfl rfl rfl (VO.mv (Rn.move rfl) rfl rfl rfl (VO.skip rfl rfl rfl ?_)))))))
      refine VO.skip rfl rfl rfl (VO.skip rfl rfl rfl (VO.skip rfl rfl rfl (VO.skip rfl rfl rfl (VO.skip rfl rfl rfl (VO.skip rfl rfl rfl (VO.skip rfl rfl rfl (VO.skip rfl rfl rfl ?_)))))))
      refine VO.mv (Rn.pick_false rfl rfl) rfl rfl rfl (VO.mv (Rn.move rfl) rfl rfl rfl (VO.skip rfl rfl rfl (VO.skip rfl rfl rfl (VO.skip rfl rfl rfl (VO.skip rfl rfl rfl (VO.skip rfl rfl rfl (VO.skip rfl rfl rfl ?_)))))))
      refine VO.skip rfl rfl rfl (VO.skip rfl rfl rfl (VO.mv (Rn.pick_false rfl rfl) rfl rfl rfl (VO.mv (Rn.assign rfl) rfl rfl rfl (VO.nil (VQ.then_code (VC.seq (VC.seq ?_)))))))
      refine VC.region (VO.mv (Rn.move rfl) rfl rfl rfl (VO.mv (Rn.not rfl) rfl rfl rfl (VO.nil (VQ.then_code (VC.cond_true rfl (VC.seq (VC.region ?_)))))))
      refine VO.mv (Rn.assign rfl) rfl rfl rfl (VO.nil (VQ.then_code (VC.ret (VQ.then_ret (VQ.ret1 rfl rfl (Ret.mk ?_))))))
      have cc_0_3 : Ch No w w3 := (Ch.then (E := No) (c1.and c2) c3 (by intro q h1 h2; rcases h2 with h2 | h2 <;> first | exact h2 | (exfalso; omega)))
      have CH_3 := (Ch.refl (No) w).and cc_0_3
      refine ⟨?_, CH_3⟩
      try clear ka ht
      first | (simp_all [formM]; done) | (simp_all [formM]; omega)
    ·
     refine VO.skip rfl rfl rfl (VO.skip rfl rfl rfl (VO.skip rfl rfl rfl (VO.skip rfl rfl rfl (VO.skip rfl rfl rfl (VO.mv (Rn.pick_false rfl rfl) rfl rfl rfl (VO.mv (Rn.move rfl) rfl rfl rfl (VO.skip rfl rfl rfl ?_)))))))
     refine VO.skip rfl rfl rfl (VO.skip rfl rfl rfl (VO.skip rfl rfl rfl (VO.skip rfl rfl rfl (VO.mv (Rn.pick_false rfl rfl) rfl rfl rfl (VO.mv (Rn.move rfl) rfl rfl rfl (VO.skip rfl rfl rfl (VO.skip rfl rfl rfl ?_)))))))
     refine VO.skip rfl rfl rfl (VO.skip rfl rfl rfl (VO.skip rfl rfl rfl (VO.skip rfl rfl rfl (VO.skip rfl rfl rfl (VO.skip rfl rfl rfl (VO.skip rfl rfl rfl (VO.mv (Rn.pick_false rfl rfl) rfl rfl rfl ?_)))))))
     refine VO.mv (Rn.move rfl) rfl rfl rfl (VO.skip rfl rfl rfl (VO.skip rfl rfl rfl (VO.skip rfl rfl rfl (VO.skip rfl rfl rfl (VO.skip rfl rfl rfl (VO.skip rfl rfl rfl (VO.skip rfl rfl rfl ?_)))))))
     refine VO.skip rfl rfl rfl (VO.mv (Rn.pick_false rfl rfl) rfl rfl rfl (VO.mv (Rn.assign rfl) rfl rfl rfl (VO.nil (VQ.then_code (VC.seq (VC.seq (VC.region ?_)))))))
     refine VO.mv (Rn.move rfl) rfl rfl rfl (VO.mv (Rn.not rfl) rfl rfl rfl (VO.nil (VQ.then_code (VC.cond_true rfl (VC.seq (VC.region (VO.mv (Rn.assign rfl) rfl rfl rfl ?_)))))))
     refine VO.nil (VQ.then_code (VC.ret (VQ.then_ret (VQ.ret1 rfl rfl (Ret.mk ?_)))))
     have cc_0_3 : Ch No w w3 := (Ch.then (E := No) (c1.and c2) c3 (by intro q h1 h2; rcases h2 with h2 | h2 <;> first | exact h2 | (exfalso; omega)))
     have CH_3 := (Ch.refl (No) w).and cc_0_3
     refine ⟨?_, CH_3⟩
     try clear ka ht
     first | (simp_all [formM]; done) | (simp_all [formM]; omega)
   ·
    refine VO.skip rfl rfl rfl (VO.skip rfl rfl rfl (VO.skip rfl rfl rfl (VO.mv (Rn.pick_false rfl rfl) rfl rfl rfl (VO.mv (Rn.move rfl) rfl rfl rfl (VO.skip rfl rfl rfl (VO.skip rfl rfl rfl (VO.skip rfl rfl rfl ?_)))))))
    refine VO.skip rfl rfl rfl (VO.skip rfl rfl rfl (VO.mv (Rn.pick_false rfl rfl) rfl rfl rfl (VO.mv (Rn.move rfl) rfl rfl rfl (VO.skip rfl rfl rfl (VO.skip rfl rfl rfl (VO.skip rfl rfl rfl (VO.skip rfl rfl rfl ?_)))))))
    refine VO.skip rfl rfl rfl (VO.mv (Rn.pick_false rfl rfl) rfl rfl rfl (VO.mv (Rn.move rfl) rfl rfl rfl (VO.skip rfl rfl rfl (VO.skip rfl rfl rfl (VO.skip rfl rfl rfl (VO.skip rfl rfl rfl (VO.skip rfl rfl rfl ?_)))))))
    refine VO.skip rfl rfl rfl (VO.skip rfl rfl rfl (VO.skip rfl rfl rfl (VO.skip rfl rfl rfl (VO.mv (Rn.pick_false rfl rfl) rfl rfl rfl (VO.mv (Rn.move rfl) rfl rfl rfl (VO.skip rfl rfl rfl (VO.skip rfl rfl rfl ?_)))))))
    refine VO.skip rfl rfl rfl (VO.skip rfl rfl rfl (VO.skip rfl rfl rfl (VO.skip rfl rfl rfl (VO.skip rfl rfl rfl (VO.skip rfl rfl rfl (VO.mv (Rn.pick_false rfl rfl) rfl rfl rfl (VO.mv (Rn.assign rfl) rfl rfl rfl ?_)))))))
    refine VO.nil (VQ.then_code (VC.seq (VC.seq (VC.region (VO.mv (Rn.move rfl) rfl rfl rfl (VO.mv (Rn.not rfl) rfl rfl rfl (VO.nil ?_)))))))
    refine VQ.then_code (VC.cond_true rfl (VC.seq (VC.region (VO.mv (Rn.assign rfl) rfl rfl rfl (VO.nil (VQ.then_code (VC.ret ?_)))))))
    refine VQ.then_ret (VQ.ret1 rfl rfl (Ret.mk ?_))
    have cc_0_3 : Ch No w w3 := (Ch.then (E := No) (c1.and c2) c3 (by intro q h1 h2; rcases h2 with h2 | h2 <;> first | exact h2 | (exfalso; omega)))
    have CH_3 := (Ch.refl (No) w).and cc_0_3
    refine ⟨?_, CH_3⟩
    try clear ka ht
    first | (simp_all [formM]; done) | (simp_all [formM]; omega)
  ·
   refine VC.skip (VQ.then_code (VC.seq (VC.region (VO.mv (Rn.field Tryz.underlying119 rfl Tryz.sizeOf3 rfl rfl rfl) rfl rfl rfl (VO.mv (Rn.load Tryz.isAgg3 rfl (b1_3.cell rfl)) rfl rfl rfl (VO.wk (Wk.call Tryz.call119 rfl (steps_from _ _ _ _ _)) rfl rfl rfl ?_))))))
   rintro _ _ ⟨rfl, rfl⟩
   refine VO.mv (Rn.move rfl) rfl rfl rfl (VO.split 26 rfl (fun hc17 => ?_) (fun hc17 => ?_))
   ·
    refine VO.mv (Rn.field Tryz.underlying119 rfl Tryz.sizeOf3 rfl rfl rfl) rfl rfl rfl (VO.mv (Rn.load Tryz.isAgg3 rfl (b1_3.cell rfl)) rfl rfl rfl (VO.wk (Wk.call Tryz.call119 rfl (steps_from _ _ _ _ _)) rfl rfl rfl ?_))
    rintro _ _ ⟨rfl, rfl⟩
    refine VO.mv (Rn.pick_true rfl rfl) rfl rfl rfl (VO.mv (Rn.move rfl) rfl rfl rfl (VO.split 31 rfl (fun hc18 => ?_) (fun hc18 => ?_)))
    ·
     refine VO.mv (Rn.field Tryz.underlying179 rfl Tryz.sizeOf4 rfl rfl rfl) rfl rfl rfl (VO.mv (Rn.load Tryz.isAgg4 rfl (b5_3.cell rfl)) rfl rfl rfl (VO.mv (Rn.field Tryz.underlying119 rfl Tryz.sizeOf3 rfl rfl rfl) rfl rfl rfl (VO.mv (Rn.load Tryz.isAgg3 rfl (b1_3.cell rfl)) rfl rfl rfl (VO.wk (Wk.call Tryz.call119 rfl (steps_from _ _ _ _ _)) rfl rfl rfl ?_))))
     rintro _ _ ⟨rfl, rfl⟩
     refine VO.mv (Rn.pick_true rfl rfl) rfl rfl rfl (VO.mv (Rn.move rfl) rfl rfl rfl (VO.split 38 rfl (fun hc19 => ?_) (fun hc19 => ?_)))
     ·
      refine VO.mv (Rn.field Tryz.underlying179 rfl Tryz.sizeOf4 rfl rfl rfl) rfl rfl rfl (VO.mv (Rn.load Tryz.isAgg4 rfl (b5_3.cell rfl)) rfl rfl rfl (VO.mv (Rn.field Tryz.underlying119 rfl Tryz.sizeOf3 rfl rfl rfl) rfl rfl rfl (VO.mv (Rn.load Tryz.isAgg3 rfl (b1_3.cell rfl)) rfl rfl rfl (VO.wk (Wk.call Tryz.call119 rfl (steps_from _ _ _ _ _)) rfl rfl rfl ?_))))
      rintro _ _ ⟨rfl, rfl⟩
      refine VO.mv (Rn.pick_true rfl rfl) rfl rfl rfl (VO.mv (Rn.move rfl) rfl rfl rfl (VO.split 45 rfl (fun hc20 => ?_) (fun hc20 => ?_)))
      ·
       refine VO.mv (Rn.field Tryz.underlying179 rfl Tryz.sizeOf3 rfl rfl rfl) rfl rfl rfl (VO.mv (Rn.load Tryz.isAgg3 rfl (b5_3.cell rfl)) rfl rfl rfl (VO.mv (Rn.gtr rfl rfl) rfl rfl rfl (VO.mv (Rn.field Tryz.underlying119 rfl Tryz.sizeOf3 rfl rfl rfl) rfl rfl rfl (VO.mv (Rn.load Tryz.isAgg3 rfl (b1_3.cell rfl)) rfl rfl rfl (VO.mv (Rn.move rfl) rfl rfl rfl (VO.mv (Rn.field Tryz.underlying179 rfl Tryz.sizeOf3 rfl rfl rfl) rfl rfl rfl (VO.mv (Rn.load Tryz.isAgg3 rfl (b5_3.cell rfl)) rfl rfl rfl ?_)))))))
       refine VO.wk (Wk.call Tryz.call119 rfl (steps_from _ _ _ _ _)) rfl rfl rfl ?_
       rintro _ _ ⟨rfl, rfl⟩
       refine VO.mv (Rn.pick_true rfl rfl) rfl rfl rfl (VO.mv (Rn.move rfl) rfl rfl rfl (VO.split 56 rfl (fun hc21 => ?_) (fun hc21 => ?_)))
       ·
        refine VO.mv (Rn.field Tryz.underlying179 rfl Tryz.sizeOf4 rfl rfl rfl) rfl rfl rfl (VO.mv (Rn.load Tryz.isAgg4 rfl (b5_3.cell rfl)) rfl rfl rfl (VO.mv (Rn.field Tryz.underlying119 rfl Tryz.sizeOf3 rfl rfl rfl) rfl rfl rfl (VO.mv (Rn.load Tryz.isAgg3 rfl (b1_3.cell rfl)) rfl rfl rfl (VO.mv (Rn.field Tryz.underlying119 rfl Tryz.sizeOf3 rfl rfl rfl) rfl rfl rfl (VO.mv (Rn.load Tryz.isAgg3 rfl (b1_3.cell rfl)) rfl rfl rfl ?_)))))
        refine VO.mv (Rn.sub rfl rfl (by rw [IntKind.wrap_i64]; omega)) rfl rfl rfl ?_
        refine VO.wk (Wk.call Tryz.call119 rfl (steps_from _ _ _ _ _)) rfl rfl rfl ?_
        rintro _ _ ⟨rfl, rfl⟩
        refine VO.mv (Rn.pick_true rfl rfl) rfl rfl rfl (VO.mv (Rn.assign rfl) rfl rfl rfl (VO.nil (VQ.then_code (VC.seq (VC.seq (VC.region (VO.mv (Rn.move rfl) rfl rfl rfl ?_)))))))
        refine VO.mv (Rn.not rfl) rfl rfl rfl (VO.nil (VQ.then_code (VC.cond rfl (fun hc22 => ?_) (fun hc22 => ?_))))
        ·
         try simp only [Bool.and_eq_true, Bool.or_eq_true, Bool.not_eq_true', Bool.not_eq_false', Bool.and_eq_false_iff, Bool.or_eq_false_iff, decide_eq_true_eq, decide_eq_false_iff_not] at hc22
         refine VC.seq (VC.region (VO.mv (Rn.assign rfl) rfl rfl rfl (VO.nil (VQ.then_code (VC.ret (VQ.then_ret (VQ.ret1 rfl rfl ?_)))))))
         refine Ret.mk ?_
         have cc_0_3 : Ch No w w3 := (Ch.then (E := No) (c1.and c2) c3 (by intro q h1 h2; rcases h2 with h2 | h2 <;> first | exact h2 | (exfalso; omega)))
         have CH_3 := (Ch.refl (No) w).and cc_0_3
         refine ⟨?_, CH_3⟩
         try clear ka ht
         first | (simp_all [formM]; done) | (simp_all [formM]; omega)
        ·
         try simp only [Bool.and_eq_true, Bool.or_eq_true, Bool.not_eq_true', Bool.not_eq_false', Bool.and_eq_false_iff, Bool.or_eq_false_iff, decide_eq_true_eq, decide_eq_false_iff_not] at hc22
         refine VC.skip (VQ.then_code (VC.seq (VC.seq (VC.region (VO.mv (Rn.field Tryz.underlying119 rfl Tryz.sizeOf3 rfl rfl rfl) rfl rfl rfl (VO.mv (Rn.load Tryz.isAgg3 rfl (b1_3.cell rfl)) rfl rfl rfl (VO.nil ?_)))))))
         refine VQ.then_code (VC.block (VC.seq (VC.region (VO.mv (Rn.eql rfl rfl) rfl rfl rfl (VO.mv (Rn.assign rfl) rfl rfl rfl (VO.nil (VQ.then_code ?_)))))))
         refine VC.cond_if rfl (fun hc23 => ?_) (fun hc23 => ?_)
         ·
          refine VC.seq (VC.region (VO.mv (Rn.field Tryz.underlying119 rfl Tryz.sizeOf3 rfl rfl rfl) rfl rfl rfl (VO.mv (Rn.load Tryz.isAgg3 rfl (b1_3.cell rfl)) rfl rfl rfl (VO.mv (Rn.field Tryz.underlying119 rfl Tryz.sizeOf3 rfl rfl rfl) rfl rfl rfl (VO.mv (Rn.load Tryz.isAgg3 rfl (b1_3.cell rfl)) rfl rfl rfl (VO.mv (Rn.leq rfl rfl) rfl rfl rfl (VO.mv (Rn.assign rfl) rfl rfl rfl ?_)))))))
          refine VO.nil (VQ.then_code (VC.ret (VQ.block_ret (VQ.then_ret (VQ.ret1 rfl rfl (Ret.mk ?_))))))
          have cc_0_3 : Ch No w w3 := (Ch.then (E := No) (c1.and c2) c3 (by intro q h1 h2; rcases h2 with h2 | h2 <;> first | exact h2 | (exfalso; omega)))
          have CH_3 := (Ch.refl (No) w).and cc_0_3
          refine ⟨?_, CH_3⟩
          try clear ka ht
          first | (simp_all [formM]; done) | (simp_all [formM]; omega)
         ·
          refine VC.seq (VC.seq (VC.region (VO.mv (Rn.eql rfl rfl) rfl rfl rfl (VO.mv (Rn.assign rfl) rfl rfl rfl (VO.nil (VQ.then_code (VC.cond_if rfl (fun hc24 => ?_) (fun hc24 => ?_))))))))
          ·
           refine VC.skip (VQ.then_code (VC.cond_if rfl (fun hc25 => ?_) (fun hc25 => ?_)))
           ·
            refine VC.seq (VC.region (VO.mv (Rn.field Tryz.underlying119 rfl Tryz.sizeOf3 rfl rfl rfl) rfl rfl rfl (VO.mv (Rn.load Tryz.isAgg3 rfl (b1_3.cell rfl)) rfl rfl rfl (VO.mv (Rn.field Tryz.underlying119 rfl Tryz.sizeOf3 rfl rfl rfl) rfl rfl rfl (VO.mv (Rn.load Tryz.isAgg3 rfl (b1_3.cell rfl)) rfl rfl rfl (VO.mv (Rn.leq rfl rfl) rfl rfl rfl (VO.mv (Rn.assign rfl) rfl rfl rfl ?_)))))))
            refine VO.nil (VQ.then_code (VC.ret (VQ.block_ret (VQ.then_ret (VQ.ret1 rfl rfl (Ret.mk ?_))))))
            have cc_0_3 : Ch No w w3 := (Ch.then (E := No) (c1.and c2) c3 (by intro q h1 h2; rcases h2 with h2 | h2 <;> first | exact h2 | (exfalso; omega)))
            have CH_3 := (Ch.refl (No) w).and cc_0_3
            refine ⟨?_, CH_3⟩
            try clear ka ht
            first | (simp_all [formM]; done) | (simp_all [formM]; omega)
           ·
            refine VC.seq (VC.region (VO.mv (Rn.eql rfl rfl) rfl rfl rfl (VO.mv (Rn.assign rfl) rfl rfl rfl (VO.nil (VQ.then_code (VC.cond_if rfl (fun hc26 => ?_) (fun hc26 => ?_)))))))
            ·
             refine VC.seq (VC.region (VO.mv (Rn.field Tryz.underlying119 rfl Tryz.sizeOf3 rfl rfl rfl) rfl rfl rfl (VO.mv (Rn.load Tryz.isAgg3 rfl (b1_3.cell rfl)) rfl rfl rfl (VO.mv (Rn.field Tryz.underlying119 rfl Tryz.sizeOf3 rfl rfl rfl) rfl rfl rfl (VO.mv (Rn.load Tryz.isAgg3 rfl (b1_3.cell rfl)) rfl rfl rfl ?_)))))
             refine VO.mv (Rn.mul rfl rfl (by rw [IntKind.wrap_i64]; omega)) rfl rfl rfl ?_
             refine VO.mv (Rn.sub rfl rfl (by rw [IntKind.wrap_i64]; omega)) rfl rfl rfl ?_
             refine VO.mv (Rn.geq rfl rfl) rfl rfl rfl (VO.mv (Rn.move rfl) rfl rfl rfl ?_)
             refine VO.andJoin (b := _) 4 94 98 rfl (fun hc27 Jhc27 => by
               try simp only [Bool.and_eq_true, Bool.or_eq_true, Bool.not_eq_true', Bool.not_eq_false', Bool.and_eq_false_iff, Bool.or_eq_false_iff, decide_eq_true_eq, decide_eq_false_iff_not] at hc27
               refine VO.mv (Rn.field Tryz.underlying119 rfl Tryz.sizeOf3 rfl rfl rfl) rfl rfl rfl (VO.mv (Rn.load Tryz.isAgg3 rfl (b1_3.cell rfl)) rfl rfl rfl (VO.mv (Rn.leq rfl rfl) rfl rfl rfl (VO.mv (Rn.pick_true rfl rfl) rfl rfl rfl ?_)))
               exact (VO.fg rfl (VO.fg rfl (VO.fg rfl Jhc27)))) (fun hc27 Jhc27 => by
               refine VO.skip rfl rfl rfl (VO.skip rfl rfl rfl (VO.skip rfl rfl rfl (VO.mv (Rn.pick_false rfl rfl) rfl rfl rfl ?_)))
               exact (VO.fg rfl (VO.fg rfl (VO.fg rfl Jhc27)))) ?_
             refine VO.mv (Rn.assign rfl) rfl rfl rfl (VO.nil (VQ.then_code (VC.ret (VQ.block_ret (VQ.then_ret (VQ.ret1 rfl rfl (Ret.mk ?_)))))))
             have cc_0_3 : Ch No w w3 := (Ch.then (E := No) (c1.and c2) c3 (by intro q h1 h2; rcases h2 with h2 | h2 <;> first | exact h2 | (exfalso; omega)))
             have CH_3 := (Ch.refl (No) w).and cc_0_3
             refine ⟨?_, CH_3⟩
             try clear ka ht
             first | (simp_all [formM]; done) | (simp_all [formM]; omega)
            ·
             refine VC.skip (VQ.block_normal (VQ.then_code (VC.seq (VC.region (VO.mv (Rn.assign rfl) rfl rfl rfl (VO.nil (VQ.then_code ?_)))))))
             refine VC.ret (VQ.ret1 rfl rfl (Ret.mk ?_))
             have cc_0_3 : Ch No w w3 := (Ch.then (E := No) (c1.and c2) c3 (by intro q h1 h2; rcases h2 with h2 | h2 <;> first | exact h2 | (exfalso; omega)))
             have CH_3 := (Ch.refl (No) w).and cc_0_3
             refine ⟨?_, CH_3⟩
             try clear ka ht
             first | (simp_all [formM]; done) | (simp_all [formM]; omega)
          ·
           refine VC.region (VO.mv (Rn.eql rfl rfl) rfl rfl rfl (VO.mv (Rn.assign rfl) rfl rfl rfl (VO.nil (VQ.then_code (VC.cond_if rfl (fun hc28 => ?_) (fun hc28 => ?_))))))
           ·
            refine VC.seq (VC.region (VO.mv (Rn.field Tryz.underlying119 rfl Tryz.sizeOf3 rfl rfl rfl) rfl rfl rfl (VO.mv (Rn.load Tryz.isAgg3 rfl (b1_3.cell rfl)) rfl rfl rfl (VO.mv (Rn.field Tryz.underlying119 rfl Tryz.sizeOf3 rfl rfl rfl) rfl rfl rfl (VO.mv (Rn.load Tryz.isAgg3 rfl (b1_3.cell rfl)) rfl rfl rfl (VO.mv (Rn.leq rfl rfl) rfl rfl rfl (VO.mv (Rn.assign rfl) rfl rfl rfl ?_)))))))
            refine VO.nil (VQ.then_code (VC.ret (VQ.block_ret (VQ.then_ret (VQ.ret1 rfl rfl (Ret.mk ?_))))))
            have cc_0_3 : Ch No w w3 := (Ch.then (E := No) (c1.and c2) c3 (by intro q h1 h2; rcases h2 with h2 | h2 <;> first | exact h2 | (exfalso; omega)))
            have CH_3 := (Ch.refl (No) w).and cc_0_3
            refine ⟨?_, CH_3⟩
            try clear ka ht
            first | (simp_all [formM]; done) | (simp_all [formM]; omega)
           ·
            refine VC.seq (VC.region (VO.mv (Rn.eql rfl rfl) rfl rfl rfl (VO.mv (Rn.assign rfl) rfl rfl rfl (VO.nil (VQ.then_code (VC.cond_if rfl (fun hc29 => ?_) (fun hc29 => ?_)))))))
            ·
             refine VC.seq (VC.region (VO.mv (Rn.field Tryz.underlying119 rfl Tryz.sizeOf3 rfl rfl rfl) rfl rfl rfl (VO.mv (Rn.load Tryz.isAgg3 rfl (b1_3.cell rfl)) rfl rfl rfl (VO.mv (Rn.field Tryz.underlying119 rfl Tryz.sizeOf3 rfl rfl rfl) rfl rfl rfl (VO.mv (Rn.load Tryz.isAgg3 rfl (b1_3.cell rfl)) rfl rfl rfl ?_)))))
             refine VO.mv (Rn.mul rfl rfl (by rw [IntKind.wrap_i64]; omega)) rfl rfl rfl ?_
             refine VO.mv (Rn.sub rfl rfl (by rw [IntKind.wrap_i64]; omega)) rfl rfl rfl ?_
             refine VO.mv (Rn.geq rfl rfl) rfl rfl rfl (VO.mv (Rn.move rfl) rfl rfl rfl ?_)
             refine VO.andJoin (b := _) 4 94 98 rfl (fun hc30 Jhc30 => by
               try simp only [Bool.and_eq_true, Bool.or_eq_true, Bool.not_eq_true', Bool.not_eq_false', Bool.and_eq_false_iff, Bool.or_eq_false_iff, decide_eq_true_eq, decide_eq_false_iff_not] at hc30
               refine VO.mv (Rn.field Tryz.underlying119 rfl Tryz.sizeOf3 rfl rfl rfl) rfl rfl rfl (VO.mv (Rn.load Tryz.isAgg3 rfl (b1_3.cell rfl)) rfl rfl rfl (VO.mv (Rn.leq rfl rfl) rfl rfl rfl (VO.mv (Rn.pick_true rfl rfl) rfl rfl rfl ?_)))
               exact (VO.fg rfl (VO.fg rfl (VO.fg rfl Jhc30)))) (fun hc30 Jhc30 => by
               refine VO.skip rfl rfl rfl (VO.skip rfl rfl rfl (VO.skip rfl rfl rfl (VO.mv (Rn.pick_false rfl rfl) rfl rfl rfl ?_)))
               exact (VO.fg rfl (VO.fg rfl (VO.fg rfl Jhc30)))) ?_
             refine VO.mv (Rn.assign rfl) rfl rfl rfl (VO.nil (VQ.then_code (VC.ret (VQ.block_ret (VQ.then_ret (VQ.ret1 rfl rfl (Ret.mk ?_)))))))
             have cc_0_3 : Ch No w w3 := (Ch.then (E := No) (c1.and c2) c3 (by intro q h1 h2; rcases h2 with h2 | h2 <;> first | exact h2 | (exfalso; omega)))
             have CH_3 := (Ch.refl (No) w).and cc_0_3
             refine ⟨?_, CH_3⟩
             try clear ka ht
             first | (simp_all [formM]; done) | (simp_all [formM]; omega)
            ·
             refine VC.skip (VQ.block_normal (VQ.then_code (VC.seq (VC.region (VO.mv (Rn.assign rfl) rfl rfl rfl (VO.nil (VQ.then_code ?_)))))))
             refine VC.ret (VQ.ret1 rfl rfl (Ret.mk ?_))
             have cc_0_3 : Ch No w w3 := (Ch.then (E := No) (c1.and c2) c3 (by intro q h1 h2; rcases h2 with h2 | h2 <;> first | exact h2 | (exfalso; omega)))
             have CH_3 := (Ch.refl (No) w).and cc_0_3
             refine ⟨?_, CH_3⟩
             try clear ka ht
             first | (simp_all [formM]; done) | (simp_all [formM]; omega)
       ·
        refine VO.skip rfl rfl rfl (VO.skip rfl rfl rfl (VO.skip rfl rfl rfl (VO.skip rfl rfl rfl (VO.skip rfl rfl rfl (VO.skip rfl rfl rfl (VO.skip rfl rfl rfl (VO.skip rfl rfl rfl ?_)))))))
        refine VO.mv (Rn.pick_false rfl rfl) rfl rfl rfl (VO.mv (Rn.assign rfl) rfl rfl rfl (VO.nil (VQ.then_code (VC.seq (VC.seq (VC.region (VO.mv (Rn.move rfl) rfl rfl rfl ?_)))))))
        refine VO.mv (Rn.not rfl) rfl rfl rfl (VO.nil (VQ.then_code (VC.cond_true rfl (VC.seq (VC.region (VO.mv (Rn.assign rfl) rfl rfl rfl (VO.nil ?_)))))))
        refine VQ.then_code (VC.ret (VQ.then_ret (VQ.ret1 rfl rfl (Ret.mk ?_))))
        have cc_0_3 : Ch No w w3 := (Ch.then (E := No) (c1.and c2) c3 (by intro q h1 h2; rcases h2 with h2 | h2 <;> first | exact h2 | (exfalso; omega)))
        have CH_3 := (Ch.refl (No) w).and cc_0_3
        refine ⟨?_, CH_3⟩
        try clear ka ht
        first | (simp_all [formM]; done) | (simp_all [formM]; omega)
      ·
       refine VO.skip rfl rfl rfl (VO.skip rfl rfl rfl (VO.skip rfl rfl rfl (VO.skip rfl rfl rfl (VO.skip rfl rfl rfl (VO.skip rfl rfl rfl (VO.skip rfl rfl rfl (VO.skip rfl rfl rfl ?_)))))))
       refine VO.skip rfl rfl rfl (VO.mv (Rn.pick_false rfl rfl) rfl rfl rfl (VO.mv (Rn.move rfl) rfl rfl rfl (VO.skip rfl rfl rfl (VO.skip rfl rfl rfl (VO.skip rfl rfl rfl (VO.skip rfl rfl rfl (VO.skip rfl rfl rfl ?_)))))))
       refine VO.skip rfl rfl rfl (VO.skip rfl rfl rfl (VO.skip rfl rfl rfl (VO.mv (Rn.pick_false rfl rfl) rfl rfl rfl (VO.mv (Rn.assign rfl) rfl rfl rfl (VO.nil (VQ.then_code (VC.seq ?_)))))))
       refine VC.seq (VC.region (VO.mv (Rn.move rfl) rfl rfl rfl (VO.mv (Rn.not rfl) rfl rfl rfl (VO.nil (VQ.then_code (VC.cond_true rfl (VC.seq ?_)))))))
       refine VC.region (VO.mv (Rn.assign rfl) rfl rfl rfl (VO.nil (VQ.then_code (VC.ret (VQ.then_ret (VQ.ret1 rfl rfl (Ret.mk ?_)))))))
       have cc_0_3 : Ch No w w3 := (Ch.then (E := No) (c1.and c2) c3 (by intro q h1 h2; rcases h2 with h2 | h2 <;> first | exact h2 | (exfalso; omega)))
       have CH_3 := (Ch.refl (No) w).and cc_0_3
       refine ⟨?_, CH_3⟩
       try clear ka ht
       first | (simp_all [formM]; done) | (simp_all [formM]; omega)
     ·
      refine VO.skip rfl rfl rfl (VO.skip rfl rfl rfl (VO.skip rfl rfl rfl (VO.skip rfl rfl rfl (VO.skip rfl rfl rfl (VO.mv (Rn.pick_false rfl rfl) rfl rfl rfl (VO.mv (Rn.move rfl) rfl rfl rfl (VO.skip rfl rfl rfl ?_)))))))
      refine VO.skip rfl rfl rfl (VO.skip rfl rfl rfl (VO.skip rfl rfl rfl (VO.skip rfl rfl rfl (VO.skip rfl rfl rfl (VO.skip rfl rfl rfl (VO.skip rfl rfl rfl (VO.skip rfl rfl rfl ?_)))))))
      refine VO.mv (Rn.pick_false rfl rfl) rfl rfl rfl (VO.mv (Rn.move rfl) rfl rfl rfl (VO.skip rfl rfl rfl (VO.skip rfl rfl rfl (VO.skip rfl rfl rfl (VO.skip rfl rfl rfl (VO.skip rfl rfl rfl (VO.skip rfl rfl rfl ?_)))))))
      refine VO.skip rfl rfl rfl (VO.skip rfl rfl rfl (VO.mv (Rn.pick_false rfl rfl) rfl rfl rfl (VO.mv (Rn.assign rfl) rfl rfl rfl (VO.nil (VQ.then_code (VC.seq (VC.seq ?_)))))))
      refine VC.region (VO.mv (Rn.move rfl) rfl rfl rfl (VO.mv (Rn.not rfl) rfl rfl rfl (VO.nil (VQ.then_code (VC.cond_true rfl (VC.seq (VC.region ?_)))))))
      refine VO.mv (Rn.assign rfl) rfl rfl rfl (VO.nil (VQ.then_code (VC.ret (VQ.then_ret (VQ.ret1 rfl rfl (Ret.mk ?_))))))
      have cc_0_3 : Ch No w w3 := (Ch.then (E := No) (c1.and c2) c3 (by intro q h1 h2; rcases h2 with h2 | h2 <;> first | exact h2 | (exfalso; omega)))
      have CH_3 := (Ch.refl (No) w).and cc_0_3
      refine ⟨?_, CH_3⟩
      try clear ka ht
      first | (simp_all [formM]; done) | (simp_all [formM]; omega)
    ·
     refine VO.skip rfl rfl rfl (VO.skip rfl rfl rfl (VO.skip rfl rfl rfl (VO.skip rfl rfl rfl (VO.skip rfl rfl rfl (VO.mv (Rn.pick_false rfl rfl) rfl rfl rfl (VO.mv (Rn.move rfl) rfl rfl rfl (VO.skip rfl rfl rfl ?_)))))))
     refine VO.skip rfl rfl rfl (VO.skip rfl rfl rfl (VO.skip rfl rfl rfl (VO.skip rfl rfl rfl (VO.mv (Rn.pick_false rfl rfl) rfl rfl rfl (VO.mv (Rn.move rfl) rfl rfl rfl (VO.skip rfl rfl rfl (VO.skip rfl rfl rfl ?_)))))))
     refine VO.skip rfl rfl rfl (VO.skip rfl rfl rfl (VO.skip rfl rfl rfl (VO.skip rfl rfl rfl (VO.skip rfl rfl rfl (VO.skip rfl rfl rfl (VO.skip rfl rfl rfl (VO.mv (Rn.pick_false rfl rfl) rfl rfl rfl ?_)))))))
     refine VO.mv (Rn.move rfl) rfl rfl rfl (VO.skip rfl rfl rfl (VO.skip rfl rfl rfl (VO.skip rfl rfl rfl (VO.skip rfl rfl rfl (VO.skip rfl rfl rfl (VO.skip rfl rfl rfl (VO.skip rfl rfl rfl ?_)))))))
     refine VO.skip rfl rfl rfl (VO.mv (Rn.pick_false rfl rfl) rfl rfl rfl (VO.mv (Rn.assign rfl) rfl rfl rfl (VO.nil (VQ.then_code (VC.seq (VC.seq (VC.region ?_)))))))
     refine VO.mv (Rn.move rfl) rfl rfl rfl (VO.mv (Rn.not rfl) rfl rfl rfl (VO.nil (VQ.then_code (VC.cond_true rfl (VC.seq (VC.region (VO.mv (Rn.assign rfl) rfl rfl rfl ?_)))))))
     refine VO.nil (VQ.then_code (VC.ret (VQ.then_ret (VQ.ret1 rfl rfl (Ret.mk ?_)))))
     have cc_0_3 : Ch No w w3 := (Ch.then (E := No) (c1.and c2) c3 (by intro q h1 h2; rcases h2 with h2 | h2 <;> first | exact h2 | (exfalso; omega)))
     have CH_3 := (Ch.refl (No) w).and cc_0_3
     refine ⟨?_, CH_3⟩
     try clear ka ht
     first | (simp_all [formM]; done) | (simp_all [formM]; omega)
   ·
    refine VO.skip rfl rfl rfl (VO.skip rfl rfl rfl (VO.skip rfl rfl rfl (VO.mv (Rn.pick_false rfl rfl) rfl rfl rfl (VO.mv (Rn.move rfl) rfl rfl rfl (VO.skip rfl rfl rfl (VO.skip rfl rfl rfl (VO.skip rfl rfl rfl ?_)))))))
    refine VO.skip rfl rfl rfl (VO.skip rfl rfl rfl (VO.mv (Rn.pick_false rfl rfl) rfl rfl rfl (VO.mv (Rn.move rfl) rfl rfl rfl (VO.skip rfl rfl rfl (VO.skip rfl rfl rfl (VO.skip rfl rfl rfl (VO.skip rfl rfl rfl ?_)))))))
    refine VO.skip rfl rfl rfl (VO.mv (Rn.pick_false rfl rfl) rfl rfl rfl (VO.mv (Rn.move rfl) rfl rfl rfl (VO.skip rfl rfl rfl (VO.skip rfl rfl rfl (VO.skip rfl rfl rfl (VO.skip rfl rfl rfl (VO.skip rfl rfl rfl ?_)))))))
    refine VO.skip rfl rfl rfl (VO.skip rfl rfl rfl (VO.skip rfl rfl rfl (VO.skip rfl rfl rfl (VO.mv (Rn.pick_false rfl rfl) rfl rfl rfl (VO.mv (Rn.move rfl) rfl rfl rfl (VO.skip rfl rfl rfl (VO.skip rfl rfl rfl ?_)))))))
    refine VO.skip rfl rfl rfl (VO.skip rfl rfl rfl (VO.skip rfl rfl rfl (VO.skip rfl rfl rfl (VO.skip rfl rfl rfl (VO.skip rfl rfl rfl (VO.mv (Rn.pick_false rfl rfl) rfl rfl rfl (VO.mv (Rn.assign rfl) rfl rfl rfl ?_)))))))
    refine VO.nil (VQ.then_code (VC.seq (VC.seq (VC.region (VO.mv (Rn.move rfl) rfl rfl rfl (VO.mv (Rn.not rfl) rfl rfl rfl (VO.nil ?_)))))))
    refine VQ.then_code (VC.cond_true rfl (VC.seq (VC.region (VO.mv (Rn.assign rfl) rfl rfl rfl (VO.nil (VQ.then_code (VC.ret ?_)))))))
    refine VQ.then_ret (VQ.ret1 rfl rfl (Ret.mk ?_))
    have cc_0_3 : Ch No w w3 := (Ch.then (E := No) (c1.and c2) c3 (by intro q h1 h2; rcases h2 with h2 | h2 <;> first | exact h2 | (exfalso; omega)))
    have CH_3 := (Ch.refl (No) w).and cc_0_3
    refine ⟨?_, CH_3⟩
    try clear ka ht
    first | (simp_all [formM]; done) | (simp_all [formM]; omega)
set_option maxRecDepth 100000 in
theorem steps_Acts (s : Stp) (w : World) (st : StT w) (hn : -1000000000 ≤ s.n ∧ s.n ≤ 1000000000) :
  Calls Tryz.prog 150 #[.agg #[.int .i64 s.op, .int .i64 s.dst, .int .i64 s.src, .int .i64 s.jump, .int .i64 s.count, .int .i64 s.n, .int .i64 s.k]] w (Ret (fun v w' => v = .int .i64 (actsM s) ∧ Ch No w w')) := by
 refine calls_of_VC (args := [.agg #[.int .i64 s.op, .int .i64 s.dst, .int .i64 s.src, .int .i64 s.jump, .int .i64 s.count, .int .i64 s.n, .int .i64 s.k]]) Tryz.func150 rfl Tryz.ntmps150 rfl (VC.seq (VC.region (VO.wk (Wk.box rfl) rfl rfl rfl ?_)))
 rintro _ w1 ⟨p1, rfl, N1⟩
 have c1 := N1.ch
 have e1 := N1.p; have z1 := N1.size
 have b1 := Bk.new N1
 refine VO.mv (Rn.assign rfl) rfl rfl rfl (VO.nil (VQ.then_code (VC.seq (VC.seq (VC.region (VO.mv (Rn.loads Tryz.isAgg119 Tryz.sizeOf119 rfl rfl (b1.all' rfl)) rfl rfl rfl ?_))))))
 have st_1 := st.keep c1
 refine VO.wk (Wk.call Tryz.call87 rfl (steps_form s _ st_1 hn)) rfl rfl rfl ?_
 rintro _ w2 ⟨rfl, c2⟩
 have z2 := c2.size
 refine VO.mv (Rn.not rfl) rfl rfl rfl (VO.nil (VQ.then_code (VC.cond rfl (fun hc1 => ?_) (fun hc1 => ?_))))
 ·
  try simp only [Bool.and_eq_true, Bool.or_eq_true, Bool.not_eq_true', Bool.not_eq_false', Bool.and_eq_false_iff, Bool.or_eq_false_iff, decide_eq_true_eq, decide_eq_false_iff_not] at hc1
  refine VC.seq (VC.region (VO.mv (Rn.assign rfl) rfl rfl rfl (VO.nil (VQ.then_code (VC.ret (VQ.then_ret (VQ.ret1 rfl rfl ?_)))))))
  refine Ret.mk ?_
  have CH_2 := (Ch.refl (No) w).and (c1.trans c2)
  exact ⟨by rw [actsM, if_neg (by simpa using hc1)], CH_2⟩
 ·
  try simp only [Bool.and_eq_true, Bool.or_eq_true, Bool.not_eq_true', Bool.not_eq_false', Bool.and_eq_false_iff, Bool.or_eq_false_iff, decide_eq_true_eq, decide_eq_false_iff_not] at hc1
  refine VC.skip (VQ.then_code (VC.seq (VC.region (VO.mv (Rn.field Tryz.underlying119 rfl Tryz.sizeOf3 rfl rfl rfl) rfl rfl rfl ?_))))
  have b1_2 := b1.keep c2
  refine VO.mv (Rn.load Tryz.isAgg3 rfl (b1_2.cell rfl)) rfl rfl rfl (VO.mv (Rn.assign rfl) rfl rfl rfl (VO.nil (VQ.then_code (VC.ret (VQ.ret1 rfl rfl (Ret.mk ?_))))))
  have CH_2 := (Ch.refl (No) w).and (c1.trans c2)
  exact ⟨by rw [actsM, if_pos (by simpa using hc1)]; rfl, CH_2⟩
end Go.Tm
