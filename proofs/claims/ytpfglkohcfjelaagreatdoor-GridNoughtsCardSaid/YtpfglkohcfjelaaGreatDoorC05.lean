/- Lemmas of this claim, joined by program. Walks of functions: steps. Conditions: each lemma names its own. -/
import Derived.Test.YtpfglkohcfjelaaGreatDoorC04
set_option linter.all false
namespace Go.Tm
set_option maxRecDepth 100000
open Go.RowKit Go.Proofs
theorem Rn.indexArr {P : Program} {n : Fr} {k : K} {w : World} {d : Option Nat} {ty : TypeId} {pos : String} {aft : Array Edge} {g : Option (Nat × Bool)} {t e : TypeId} {m sz : Nat} {x y : Operand} {ad : Addr} {q : IntKind} {i : Int} (ht : P.underlying t = some (.array m e)) (hz : ∀ w, (sizeOf e).run P w = .ok sz w)
    (hx : ev k x = some (.pointer (some ad))) (hy : ev k y = some (.int q i)) (h0 : 0 ≤ i) (h1 : i < m) :
    Rn P n k w { dst := d, op := .indexAddr t x y, type := ty, pos := pos, after := aft, guard := g } (.pointer (some (ad.add (i.toNat * sz)))) :=
  fun a ha => by simp [execOp, ha.eval hx, ha.eval hy, Instr.indexAt, run_underlying ht, asIntOf, Instr.sureAddr, h0, h1, hz]
def StT (w : World) : Prop := ∃ nm : Nat → ByteArray, ∀ i, i < 12 → CaR (· < 24) w ((⟨20, 0, none⟩ : Addr).add (i * 5)) [.string (nm i), .bool (kSrc i), .bool (kJmp i), .int .i64 (kN i), .bool (kK i)]
theorem StT.to {D : Nat → Prop} {w w' : World} (h : StT w) (c : Ch D w w') (hd : ∀ q, q < w.heap.size → q < 24 → isC w q → ¬ D q := by first | exact fun _ _ _ _ => id | (intro q h1 h2 hx h3; omega)) : StT w' := by
  obtain ⟨nm, h⟩ := h
  exact ⟨nm, fun i hi => (h i hi).to c hd⟩
theorem StT.keep {w w' : World} (h : StT w) (c : Ch No w w') : StT w' := h.to c fun _ _ _ _ => id
theorem steps_from (b : Bool) (x lo hi : Int) (w : World) :
  Calls Tryz.prog 249 #[.bool b, .int .i64 x, .int .i64 lo, .int .i64 hi] w (Ret (fun v w' => v = .bool (fromM b x lo hi) ∧ w = w')) := by
 refine calls_of_VC (args := [.bool b, .int .i64 x, .int .i64 lo, .int .i64 hi]) Tryz.func249 rfl Tryz.ntmps249 rfl (Qe (Qb (Om (Qd rfl) rfl (Qf (Qa (Qe (Qe ?_)))))))
 refine Qb (Om (Qc rfl) rfl (Om (Ro rfl) rfl (Qf (Qa (Cu rfl (fun hc1 => ?_) (fun hc1 => ?_))))))
 ·
  try simp only [bX] at hc1
  refine Qe (Qb (Om (Qc rfl) rfl (Om (Cm rfl rfl) rfl (Om (Qd rfl) rfl (Qf (Qa (Qp ?_)))))))
  refine Qu (Qy rfl rfl (Ret.mk (⟨?_, rfl⟩)))
  first | (simp_all [fromM]; done) | (cases b <;> simp_all [fromM])
 ·
  try simp only [bX] at hc1
  refine Qn (Qa (Qe (Qb (Om (Qc rfl) rfl (Om (Qc rfl) rfl (Om (Wb rfl rfl) rfl (Om (Qc rfl) rfl ?_)))))))
  refine Rc (b := _) 4 16 20 rfl (fun hc2 Jhc2 => by
    try simp only [bX] at hc2
    refine Om (Qc rfl) rfl (Om (Qc rfl) rfl (Om (Rv rfl rfl) rfl (Om (Qt rfl rfl) rfl ?_)))
    exact (Qs rfl (Qs rfl (Qs rfl Jhc2)))) (fun hc2 Jhc2 => by
    refine Oy rfl (Oy rfl (Oy rfl (Om (Qm rfl rfl) rfl ?_)))
    exact (Qs rfl (Qs rfl (Qs rfl Jhc2)))) ?_
  refine Om (Qd rfl) rfl (Qf (Qa (Qp (Qy rfl rfl (Ret.mk (⟨?_, rfl⟩))))))
  first | (simp_all [fromM]; done) | (cases b <;> simp_all [fromM])
theorem steps_Name (n : Int) (w : World) (st : StT w) :
  Calls Tryz.prog 248 #[.int .i64 n] w (Ret (fun v w' => ∃ s, v = .tuple #[.string s, .bool (decide (1 ≤ n ∧ n ≤ 11))] ∧ w = w')) := by
 refine calls_of_VC (args := [.int .i64 n]) Tryz.func248 rfl Tryz.ntmps248 rfl (Qe (Qb (Om (Qd rfl) rfl (Om (Qd rfl) rfl (Qf (Qa (Qe ?_)))))))
 refine Qe (Qb (Om (Qc rfl) rfl (Om (Cs rfl rfl) rfl (Om (Qc rfl) rfl ?_))))
 refine Rd (b := _) 3 6 9 rfl (fun hc1 Jhc1 => by
   refine Oy rfl (Oy rfl (Om (Qt rfl rfl) rfl ?_))
   exact (Qs rfl (Qs rfl Jhc1))) (fun hc1 Jhc1 => by
   try simp only [bX] at hc1
   refine Om (Qc rfl) rfl (Om (Rb rfl rfl) rfl (Om (Qm rfl rfl) rfl ?_))
   exact (Qs rfl (Qs rfl Jhc1))) ?_
 refine Qf (Qa (Cu rfl (fun hc2 => ?_) (fun hc2 => ?_)))
 ·
  try simp only [bX] at hc2
  refine Qe (Qb (Om (Qd rfl) rfl (Om (Qd rfl) rfl (Qf (Qa (Qp (Qu ?_)))))))
  refine Cz rfl rfl rfl (Ret.mk ?_)
  exact ⟨_, by rw [decide_eq_false (by omega)], rfl⟩
 ·
  try simp only [bX] at hc2
  refine Qn (Qa (Qe ?_))
  obtain ⟨nm, ht⟩ := st
  have ka := ht n.toNat (by omega)
  refine Qb (Om (Qc rfl) rfl (Om (Rn.indexArr υ260 ς259 rfl rfl (by omega) (by omega)) rfl (Om (Rn.fieldA υ259 rfl ς9 rfl rfl rfl) rfl (Om (Qh ι9 rfl (ka.1 0 _ rfl)) rfl (Om (Qd rfl) rfl (Om (Qd rfl) rfl (Qf ?_)))))))
  refine Qa (Qp (Cz rfl rfl rfl (Ret.mk ?_)))
  exact ⟨_, by rw [decide_eq_true (by omega)], rfl⟩
set_option maxHeartbeats 4000000 in
theorem steps_form (s : Stp) (w : World) (st : StT w) (hn : -1000000000 ≤ s.n ∧ s.n ≤ 1000000000) :
  Calls Tryz.prog 202 #[.agg #[.int .i64 s.op, .int .i64 s.dst, .int .i64 s.src, .int .i64 s.jump, .int .i64 s.count, .int .i64 s.n, .int .i64 s.k]] w (Ret (fun v w' => v = .bool (formM s) ∧ Ch No w w')) := by
 refine calls_of_VC (args := [.agg #[.int .i64 s.op, .int .i64 s.dst, .int .i64 s.src, .int .i64 s.jump, .int .i64 s.count, .int .i64 s.n, .int .i64 s.k]]) Tryz.func202 rfl Tryz.ntmps202 rfl (Qe (Qb (Oq (Cj rfl) rfl ?_)))
 rintro _ w1 ⟨p1, rfl, N1⟩
 have c1 := N1.ch
 have e1 := N1.p; have z1 := N1.size
 have b1 := Bk.new N1
 refine Om (Qd rfl) rfl (Qf (Qa (Qe (Qe (Qb (Om (Qg υ135 rfl ς3 rfl rfl rfl) rfl (Om (Qh ι3 rfl (b1.cell rfl)) rfl ?_)))))))
 have st_1 := st.keep c1
 refine Oq (Qi Tryz.call248 rfl (steps_Name _ _ st_1)) rfl ?_
 rintro _ _ ⟨ns2, rfl, rfl⟩
 refine Om (Qc rfl) rfl (Om (Qq rfl rfl) rfl (Om (Qq rfl rfl) rfl (Om (Qd rfl) rfl (Om (Qd rfl) rfl (Qf (Qa (Qe ?_)))))))
 refine Qb (Om (Qc rfl) rfl (Om (Rn.not_if rfl) rfl (Qf (Qa (Qj rfl (fun hc1 => ?_) (fun hc1 => ?_))))))
 ·
  refine Qe (Qb (Om (Qd rfl) rfl (Qf (Qa (Qp (Qu (Qy rfl rfl ?_)))))))
  refine Ret.mk ?_
  have CH_1 := (Ch.refl (No) w).and c1
  refine ⟨?_, CH_1⟩
  try clear ka ht
  first | (simp_all [formM]; done) | (simp_all [formM]; omega)
 ·
  refine Qn (Qa (Qe ?_))
  obtain ⟨nm, ht⟩ := st_1
  have ka := ht s.op.toNat (by omega)
  refine Qb (Om (Qg υ135 rfl ς3 rfl rfl rfl) rfl (Om (Qh ι3 rfl (b1.cell rfl)) rfl (Om (Rn.indexArr υ260 ς259 rfl rfl (by omega) (by omega)) rfl (Om (Qr Tryz.isAgg259 ς259 rfl rfl ka.1) rfl (Oq (Cc Tryz.zeroValue259) rfl ?_)))))
  rintro _ w2 ⟨p2, rfl, N2⟩
  have c2 := N2.ch
  have e2 := N2.p; have z2 := N2.size
  have b5 := Bk.new N2
  refine Oz (Cf ς259 rfl rfl rfl rfl b5 (Nat.le_of_ble_eq_true rfl)) rfl ?_
  intro _ w3 Z3
  have c3 := Z3.ch; have z3 := Z3.size
  have b5_3 := Bk.put Z3
  refine Qf (Qa (Qe (Qb (Om (Qd rfl) rfl (Qf (Qa (Qe ?_)))))))
  refine Qe (Qb (Om (Qg υ135 rfl ς3 rfl rfl rfl) rfl ?_))
  have cc_1_3 : Ch No w1 w3 := (Ch.then (E := No) c2 c3 (by intro q h1 h2; rcases h2 with h2 | h2 <;> first | exact h2 | (exfalso; omega)))
  have b1_3 := b1.keep cc_1_3
  refine Om (Qh ι3 rfl (b1_3.cell rfl)) rfl (Om (Cm rfl rfl) rfl (Qf (Qa (Qj rfl (fun hc2 => ?_) (fun hc2 => ?_)))))
  ·
   refine Qb (Om (Qd rfl) rfl (Qf (Qa (Qe (Qb (Om (Qg υ135 rfl ς3 rfl rfl rfl) rfl (Om (Qh ι3 rfl (b1_3.cell rfl)) rfl ?_)))))))
   refine Oq (Qi κ249 rfl (steps_from _ _ _ _ _)) rfl ?_
   rintro _ _ ⟨rfl, rfl⟩
   refine Om (Qc rfl) rfl (We 26 rfl (fun hc3 => ?_) (fun hc3 => ?_))
   ·
    refine Om (Qg υ135 rfl ς3 rfl rfl rfl) rfl (Om (Qh ι3 rfl (b1_3.cell rfl)) rfl (Oq (Qi κ249 rfl (steps_from _ _ _ _ _)) rfl ?_))
    rintro _ _ ⟨rfl, rfl⟩
    refine Om (Qt rfl rfl) rfl (Om (Qc rfl) rfl (We 31 rfl (fun hc4 => ?_) (fun hc4 => ?_)))
    ·
     refine Om (Qg υ259 rfl ς4 rfl rfl rfl) rfl (Om (Qh ι4 rfl (b5_3.cell rfl)) rfl (Om (Qg υ135 rfl ς3 rfl rfl rfl) rfl (Om (Qh ι3 rfl (b1_3.cell rfl)) rfl (Oq (Qi κ249 rfl (steps_from _ _ _ _ _)) rfl ?_))))
     rintro _ _ ⟨rfl, rfl⟩
     refine Om (Qt rfl rfl) rfl (Om (Qc rfl) rfl (We 38 rfl (fun hc5 => ?_) (fun hc5 => ?_)))
     ·
      refine Om (Qg υ259 rfl ς4 rfl rfl rfl) rfl (Om (Qh ι4 rfl (b5_3.cell rfl)) rfl (Om (Qg υ135 rfl ς3 rfl rfl rfl) rfl (Om (Qh ι3 rfl (b1_3.cell rfl)) rfl (Oq (Qi κ249 rfl (steps_from _ _ _ _ _)) rfl ?_))))
      rintro _ _ ⟨rfl, rfl⟩
      refine Om (Qt rfl rfl) rfl (Om (Qc rfl) rfl (We 45 rfl (fun hc6 => ?_) (fun hc6 => ?_)))
      ·
       refine Om (Qg υ259 rfl ς3 rfl rfl rfl) rfl (Om (Qh ι3 rfl (b5_3.cell rfl)) rfl (Om (Rb rfl rfl) rfl (Om (Qg υ135 rfl ς3 rfl rfl rfl) rfl (Om (Qh ι3 rfl (b1_3.cell rfl)) rfl (Om (Qc rfl) rfl (Om (Qg υ259 rfl ς3 rfl rfl rfl) rfl (Om (Qh ι3 rfl (b5_3.cell rfl)) rfl ?_)))))))
       refine Oq (Qi κ249 rfl (steps_from _ _ _ _ _)) rfl ?_
       rintro _ _ ⟨rfl, rfl⟩
       refine Om (Qt rfl rfl) rfl (Om (Qc rfl) rfl (We 56 rfl (fun hc7 => ?_) (fun hc7 => ?_)))
       ·
        refine Om (Qg υ259 rfl ς4 rfl rfl rfl) rfl (Om (Qh ι4 rfl (b5_3.cell rfl)) rfl (Om (Qg υ135 rfl ς3 rfl rfl rfl) rfl (Om (Qh ι3 rfl (b1_3.cell rfl)) rfl (Om (Qg υ135 rfl ς3 rfl rfl rfl) rfl (Om (Qh ι3 rfl (b1_3.cell rfl)) rfl ?_)))))
        refine Om (Rf rfl rfl (by rw [IntKind.wrap_i64]; omega)) rfl ?_
        refine Oq (Qi κ249 rfl (steps_from _ _ _ _ _)) rfl ?_
        rintro _ _ ⟨rfl, rfl⟩
        refine Om (Qt rfl rfl) rfl (Om (Qd rfl) rfl (Qf (Qa (Qe (Qe (Qb (Om (Qc rfl) rfl ?_)))))))
        refine Om (Ro rfl) rfl (Qf (Qa (Cu rfl (fun hc8 => ?_) (fun hc8 => ?_))))
        ·
         try simp only [bX] at hc8
         refine Qe (Qb (Om (Qd rfl) rfl (Qf (Qa (Qp (Qu (Qy rfl rfl ?_)))))))
         refine Ret.mk ?_
         have cc_0_3 : Ch No w w3 := (Ch.then (E := No) (c1.and c2) c3 (by intro q h1 h2; rcases h2 with h2 | h2 <;> first | exact h2 | (exfalso; omega)))
         have CH_3 := (Ch.refl (No) w).and cc_0_3
         refine ⟨?_, CH_3⟩
         try clear ka ht
         first | (simp_all [formM]; done) | (simp_all [formM]; omega)
        ·
         try simp only [bX] at hc8
         refine Qn (Qa (Qe (Qe (Qb (Om (Qg υ135 rfl ς3 rfl rfl rfl) rfl (Om (Qh ι3 rfl (b1_3.cell rfl)) rfl (Qf ?_)))))))
         refine Qa (Qw (Qe (Qb (Om (Cm rfl rfl) rfl (Om (Qd rfl) rfl (Qf (Qa ?_)))))))
         refine Qj rfl (fun hc9 => ?_) (fun hc9 => ?_)
         ·
          refine Qe (Qb (Om (Qg υ135 rfl ς3 rfl rfl rfl) rfl (Om (Qh ι3 rfl (b1_3.cell rfl)) rfl (Om (Qg υ135 rfl ς3 rfl rfl rfl) rfl (Om (Qh ι3 rfl (b1_3.cell rfl)) rfl (Om (Rv rfl rfl) rfl (Om (Qd rfl) rfl ?_)))))))
          refine Qf (Qa (Qp (Cd (Qu (Qy rfl rfl (Ret.mk ?_))))))
          have cc_0_3 : Ch No w w3 := (Ch.then (E := No) (c1.and c2) c3 (by intro q h1 h2; rcases h2 with h2 | h2 <;> first | exact h2 | (exfalso; omega)))
          have CH_3 := (Ch.refl (No) w).and cc_0_3
          refine ⟨?_, CH_3⟩
          try clear ka ht
          first | (simp_all [formM]; done) | (simp_all [formM]; omega)
         ·
          refine Qe (Qe (Qb (Om (Cm rfl rfl) rfl (Om (Qd rfl) rfl (Qf (Qa (Qj rfl (fun hc10 => ?_) (fun hc10 => ?_))))))))
          ·
           refine Qn (Qa (Qj rfl (fun hc11 => ?_) (fun hc11 => ?_)))
           ·
            refine Qe (Qb (Om (Qg υ135 rfl ς3 rfl rfl rfl) rfl (Om (Qh ι3 rfl (b1_3.cell rfl)) rfl (Om (Qg υ135 rfl ς3 rfl rfl rfl) rfl (Om (Qh ι3 rfl (b1_3.cell rfl)) rfl (Om (Rv rfl rfl) rfl (Om (Qd rfl) rfl ?_)))))))
            refine Qf (Qa (Qp (Cd (Qu (Qy rfl rfl (Ret.mk ?_))))))
            have cc_0_3 : Ch No w w3 := (Ch.then (E := No) (c1.and c2) c3 (by intro q h1 h2; rcases h2 with h2 | h2 <;> first | exact h2 | (exfalso; omega)))
            have CH_3 := (Ch.refl (No) w).and cc_0_3
            refine ⟨?_, CH_3⟩
            try clear ka ht
            first | (simp_all [formM]; done) | (simp_all [formM]; omega)
           ·
            refine Qe (Qb (Om (Cm rfl rfl) rfl (Om (Qd rfl) rfl (Qf (Qa (Qj rfl (fun hc12 => ?_) (fun hc12 => ?_)))))))
            ·
             refine Qe (Qb (Om (Qg υ135 rfl ς3 rfl rfl rfl) rfl (Om (Qh ι3 rfl (b1_3.cell rfl)) rfl (Om (Qg υ135 rfl ς3 rfl rfl rfl) rfl (Om (Qh ι3 rfl (b1_3.cell rfl)) rfl ?_)))))
             refine Om (Cv rfl rfl (by rw [IntKind.wrap_i64]; omega)) rfl ?_
             refine Om (Rf rfl rfl (by rw [IntKind.wrap_i64]; omega)) rfl ?_
             refine Om (Wb rfl rfl) rfl (Om (Qc rfl) rfl ?_)
             refine Rc (b := _) 4 94 98 rfl (fun hc13 Jhc13 => by
               try simp only [bX] at hc13
               refine Om (Qg υ135 rfl ς3 rfl rfl rfl) rfl (Om (Qh ι3 rfl (b1_3.cell rfl)) rfl (Om (Rv rfl rfl) rfl (Om (Qt rfl rfl) rfl ?_)))
               exact (Qs rfl (Qs rfl (Qs rfl Jhc13)))) (fun hc13 Jhc13 => by
               refine Oy rfl (Oy rfl (Oy rfl (Om (Qm rfl rfl) rfl ?_)))
               exact (Qs rfl (Qs rfl (Qs rfl Jhc13)))) ?_
             refine Om (Qd rfl) rfl (Qf (Qa (Qp (Cd (Qu (Qy rfl rfl (Ret.mk ?_)))))))
             have cc_0_3 : Ch No w w3 := (Ch.then (E := No) (c1.and c2) c3 (by intro q h1 h2; rcases h2 with h2 | h2 <;> first | exact h2 | (exfalso; omega)))
             have CH_3 := (Ch.refl (No) w).and cc_0_3
             refine ⟨?_, CH_3⟩
             try clear ka ht
             first | (simp_all [formM]; done) | (simp_all [formM]; omega)
            ·
             refine Qn (Qo (Qa (Qe (Qb (Om (Qd rfl) rfl (Qf (Qa ?_)))))))
             refine Qp (Qy rfl rfl (Ret.mk ?_))
             have cc_0_3 : Ch No w w3 := (Ch.then (E := No) (c1.and c2) c3 (by intro q h1 h2; rcases h2 with h2 | h2 <;> first | exact h2 | (exfalso; omega)))
             have CH_3 := (Ch.refl (No) w).and cc_0_3
             refine ⟨?_, CH_3⟩
             try clear ka ht
             first | (simp_all [formM]; done) | (simp_all [formM]; omega)
          ·
           refine Qb (Om (Cm rfl rfl) rfl (Om (Qd rfl) rfl (Qf (Qa (Qj rfl (fun hc14 => ?_) (fun hc14 => ?_))))))
           ·
            refine Qe (Qb (Om (Qg υ135 rfl ς3 rfl rfl rfl) rfl (Om (Qh ι3 rfl (b1_3.cell rfl)) rfl (Om (Qg υ135 rfl ς3 rfl rfl rfl) rfl (Om (Qh ι3 rfl (b1_3.cell rfl)) rfl (Om (Rv rfl rfl) rfl (Om (Qd rfl) rfl ?_)))))))
            refine Qf (Qa (Qp (Cd (Qu (Qy rfl rfl (Ret.mk ?_))))))
            have cc_0_3 : Ch No w w3 := (Ch.then (E := No) (c1.and c2) c3 (by intro q h1 h2; rcases h2 with h2 | h2 <;> first | exact h2 | (exfalso; omega)))
            have CH_3 := (Ch.refl (No) w).and cc_0_3
            refine ⟨?_, CH_3⟩
            try clear ka ht
            first | (simp_all [formM]; done) | (simp_all [formM]; omega)
           ·
            refine Qe (Qb (Om (Cm rfl rfl) rfl (Om (Qd rfl) rfl (Qf (Qa (Qj rfl (fun hc15 => ?_) (fun hc15 => ?_)))))))
            ·
             refine Qe (Qb (Om (Qg υ135 rfl ς3 rfl rfl rfl) rfl (Om (Qh ι3 rfl (b1_3.cell rfl)) rfl (Om (Qg υ135 rfl ς3 rfl rfl rfl) rfl (Om (Qh ι3 rfl (b1_3.cell rfl)) rfl ?_)))))
             refine Om (Cv rfl rfl (by rw [IntKind.wrap_i64]; omega)) rfl ?_
             refine Om (Rf rfl rfl (by rw [IntKind.wrap_i64]; omega)) rfl ?_
             refine Om (Wb rfl rfl) rfl (Om (Qc rfl) rfl ?_)
             refine Rc (b := _) 4 94 98 rfl (fun hc16 Jhc16 => by
               try simp only [bX] at hc16
               refine Om (Qg υ135 rfl ς3 rfl rfl rfl) rfl (Om (Qh ι3 rfl (b1_3.cell rfl)) rfl (Om (Rv rfl rfl) rfl (Om (Qt rfl rfl) rfl ?_)))
               exact (Qs rfl (Qs rfl (Qs rfl Jhc16)))) (fun hc16 Jhc16 => by
               refine Oy rfl (Oy rfl (Oy rfl (Om (Qm rfl rfl) rfl ?_)))
               exact (Qs rfl (Qs rfl (Qs rfl Jhc16)))) ?_
             refine Om (Qd rfl) rfl (Qf (Qa (Qp (Cd (Qu (Qy rfl rfl (Ret.mk ?_)))))))
             have cc_0_3 : Ch No w w3 := (Ch.then (E := No) (c1.and c2) c3 (by intro q h1 h2; rcases h2 with h2 | h2 <;> first | exact h2 | (exfalso; omega)))
             have CH_3 := (Ch.refl (No) w).and cc_0_3
             refine ⟨?_, CH_3⟩
             try clear ka ht
             first | (simp_all [formM]; done) | (simp_all [formM]; omega)
            ·
             refine Qn (Qo (Qa (Qe (Qb (Om (Qd rfl) rfl (Qf (Qa ?_)))))))
             refine Qp (Qy rfl rfl (Ret.mk ?_))
             have cc_0_3 : Ch No w w3 := (Ch.then (E := No) (c1.and c2) c3 (by intro q h1 h2; rcases h2 with h2 | h2 <;> first | exact h2 | (exfalso; omega)))
             have CH_3 := (Ch.refl (No) w).and cc_0_3
             refine ⟨?_, CH_3⟩
             try clear ka ht
             first | (simp_all [formM]; done) | (simp_all [formM]; omega)
       ·
        refine Oy rfl (Oy rfl (Oy rfl (Oy rfl (Oy rfl (Oy rfl (Oy rfl (Oy rfl ?_)))))))
        refine Om (Qm rfl rfl) rfl (Om (Qd rfl) rfl (Qf (Qa (Qe (Qe (Qb (Om (Qc rfl) rfl ?_)))))))
        refine Om (Ro rfl) rfl (Qf (Qa (Cw rfl (Qe (Qb (Om (Qd rfl) rfl (Qf ?_)))))))
        refine Qa (Qp (Qu (Qy rfl rfl (Ret.mk ?_))))
        have cc_0_3 : Ch No w w3 := (Ch.then (E := No) (c1.and c2) c3 (by intro q h1 h2; rcases h2 with h2 | h2 <;> first | exact h2 | (exfalso; omega)))
        have CH_3 := (Ch.refl (No) w).and cc_0_3
        refine ⟨?_, CH_3⟩
        try clear ka ht
        first | (simp_all [formM]; done) | (simp_all [formM]; omega)
      ·
       refine Oy rfl (Oy rfl (Oy rfl (Oy rfl (Oy rfl (Oy rfl (Oy rfl (Oy rfl ?_)))))))
       refine Oy rfl (Om (Qm rfl rfl) rfl (Om (Qc rfl) rfl (Oy rfl (Oy rfl (Oy rfl (Oy rfl (Oy rfl ?_)))))))
       refine Oy rfl (Oy rfl (Oy rfl (Om (Qm rfl rfl) rfl (Om (Qd rfl) rfl (Qf (Qa (Qe ?_)))))))
       refine Qe (Qb (Om (Qc rfl) rfl (Om (Ro rfl) rfl (Qf (Qa (Cw rfl (Qe ?_)))))))
       refine Qb (Om (Qd rfl) rfl (Qf (Qa (Qp (Qu (Qy rfl rfl (Ret.mk ?_)))))))
       have cc_0_3 : Ch No w w3 := (Ch.then (E := No) (c1.and c2) c3 (by intro q h1 h2; rcases h2 with h2 | h2 <;> first | exact h2 | (exfalso; omega)))
       have CH_3 := (Ch.refl (No) w).and cc_0_3
       refine ⟨?_, CH_3⟩
       try clear ka ht
       first | (simp_all [formM]; done) | (simp_all [formM]; omega)
     ·
      refine Oy rfl (Oy rfl (Oy rfl (Oy rfl (Oy rfl (Om (Qm rfl rfl) rfl (Om (Qc rfl) rfl (Oy rfl ?_)))))))
      refine Oy rfl (Oy rfl (Oy rfl (Oy rfl (Oy rfl (Oy rfl (Oy rfl (Oy rfl ?_)))))))
      refine Om (Qm rfl rfl) rfl (Om (Qc rfl) rfl (Oy rfl (Oy rfl (Oy rfl (Oy rfl (Oy rfl (Oy rfl ?_)))))))
      refine Oy rfl (Oy rfl (Om (Qm rfl rfl) rfl (Om (Qd rfl) rfl (Qf (Qa (Qe (Qe ?_)))))))
      refine Qb (Om (Qc rfl) rfl (Om (Ro rfl) rfl (Qf (Qa (Cw rfl (Qe (Qb ?_)))))))
      refine Om (Qd rfl) rfl (Qf (Qa (Qp (Qu (Qy rfl rfl (Ret.mk ?_))))))
      have cc_0_3 : Ch No w w3 := (Ch.then (E := No) (c1.and c2) c3 (by intro q h1 h2; rcases h2 with h2 | h2 <;> first | exact h2 | (exfalso; omega)))
      have CH_3 := (Ch.refl (No) w).and cc_0_3
      refine ⟨?_, CH_3⟩
      try clear ka ht
      first | (simp_all [formM]; done) | (simp_all [formM]; omega)
    ·
     refine Oy rfl (Oy rfl (Oy rfl (Oy rfl (Oy rfl (Om (Qm rfl rfl) rfl (Om (Qc rfl) rfl (Oy rfl ?_)))))))
     refine Oy rfl (Oy rfl (Oy rfl (Oy rfl (Om (Qm rfl rfl) rfl (Om (Qc rfl) rfl (Oy rfl (Oy rfl ?_)))))))
     refine Oy rfl (Oy rfl (Oy rfl (Oy rfl (Oy rfl (Oy rfl (Oy rfl (Om (Qm rfl rfl) rfl ?_)))))))
     refine Om (Qc rfl) rfl (Oy rfl (Oy rfl (Oy rfl (Oy rfl (Oy rfl (Oy rfl (Oy rfl ?_)))))))
     refine Oy rfl (Om (Qm rfl rfl) rfl (Om (Qd rfl) rfl (Qf (Qa (Qe (Qe (Qb ?_)))))))
     refine Om (Qc rfl) rfl (Om (Ro rfl) rfl (Qf (Qa (Cw rfl (Qe (Qb (Om (Qd rfl) rfl ?_)))))))
     refine Qf (Qa (Qp (Qu (Qy rfl rfl (Ret.mk ?_)))))
     have cc_0_3 : Ch No w w3 := (Ch.then (E := No) (c1.and c2) c3 (by intro q h1 h2; rcases h2 with h2 | h2 <;> first | exact h2 | (exfalso; omega)))
     have CH_3 := (Ch.refl (No) w).and cc_0_3
     refine ⟨?_, CH_3⟩
     try clear ka ht
     first | (simp_all [formM]; done) | (simp_all [formM]; omega)
   ·
    refine Oy rfl (Oy rfl (Oy rfl (Om (Qm rfl rfl) rfl (Om (Qc rfl) rfl (Oy rfl (Oy rfl (Oy rfl ?_)))))))
    refine Oy rfl (Oy rfl (Om (Qm rfl rfl) rfl (Om (Qc rfl) rfl (Oy rfl (Oy rfl (Oy rfl (Oy rfl ?_)))))))
    refine Oy rfl (Om (Qm rfl rfl) rfl (Om (Qc rfl) rfl (Oy rfl (Oy rfl (Oy rfl (Oy rfl (Oy rfl ?_)))))))
    refine Oy rfl (Oy rfl (Oy rfl (Oy rfl (Om (Qm rfl rfl) rfl (Om (Qc rfl) rfl (Oy rfl (Oy rfl ?_)))))))
    refine Oy rfl (Oy rfl (Oy rfl (Oy rfl (Oy rfl (Oy rfl (Om (Qm rfl rfl) rfl (Om (Qd rfl) rfl ?_)))))))
    refine Qf (Qa (Qe (Qe (Qb (Om (Qc rfl) rfl (Om (Ro rfl) rfl (Qf ?_)))))))
    refine Qa (Cw rfl (Qe (Qb (Om (Qd rfl) rfl (Qf (Qa (Qp ?_)))))))
    refine Qu (Qy rfl rfl (Ret.mk ?_))
    have cc_0_3 : Ch No w w3 := (Ch.then (E := No) (c1.and c2) c3 (by intro q h1 h2; rcases h2 with h2 | h2 <;> first | exact h2 | (exfalso; omega)))
    have CH_3 := (Ch.refl (No) w).and cc_0_3
    refine ⟨?_, CH_3⟩
    try clear ka ht
    first | (simp_all [formM]; done) | (simp_all [formM]; omega)
  ·
   refine Qn (Qa (Qe (Qb (Om (Qg υ135 rfl ς3 rfl rfl rfl) rfl (Om (Qh ι3 rfl (b1_3.cell rfl)) rfl (Oq (Qi κ249 rfl (steps_from _ _ _ _ _)) rfl ?_))))))
   rintro _ _ ⟨rfl, rfl⟩
   refine Om (Qc rfl) rfl (We 26 rfl (fun hc17 => ?_) (fun hc17 => ?_))
   ·
    refine Om (Qg υ135 rfl ς3 rfl rfl rfl) rfl (Om (Qh ι3 rfl (b1_3.cell rfl)) rfl (Oq (Qi κ249 rfl (steps_from _ _ _ _ _)) rfl ?_))
    rintro _ _ ⟨rfl, rfl⟩
    refine Om (Qt rfl rfl) rfl (Om (Qc rfl) rfl (We 31 rfl (fun hc18 => ?_) (fun hc18 => ?_)))
    ·
     refine Om (Qg υ259 rfl ς4 rfl rfl rfl) rfl (Om (Qh ι4 rfl (b5_3.cell rfl)) rfl (Om (Qg υ135 rfl ς3 rfl rfl rfl) rfl (Om (Qh ι3 rfl (b1_3.cell rfl)) rfl (Oq (Qi κ249 rfl (steps_from _ _ _ _ _)) rfl ?_))))
     rintro _ _ ⟨rfl, rfl⟩
     refine Om (Qt rfl rfl) rfl (Om (Qc rfl) rfl (We 38 rfl (fun hc19 => ?_) (fun hc19 => ?_)))
     ·
      refine Om (Qg υ259 rfl ς4 rfl rfl rfl) rfl (Om (Qh ι4 rfl (b5_3.cell rfl)) rfl (Om (Qg υ135 rfl ς3 rfl rfl rfl) rfl (Om (Qh ι3 rfl (b1_3.cell rfl)) rfl (Oq (Qi κ249 rfl (steps_from _ _ _ _ _)) rfl ?_))))
      rintro _ _ ⟨rfl, rfl⟩
      refine Om (Qt rfl rfl) rfl (Om (Qc rfl) rfl (We 45 rfl (fun hc20 => ?_) (fun hc20 => ?_)))
      ·
       refine Om (Qg υ259 rfl ς3 rfl rfl rfl) rfl (Om (Qh ι3 rfl (b5_3.cell rfl)) rfl (Om (Rb rfl rfl) rfl (Om (Qg υ135 rfl ς3 rfl rfl rfl) rfl (Om (Qh ι3 rfl (b1_3.cell rfl)) rfl (Om (Qc rfl) rfl (Om (Qg υ259 rfl ς3 rfl rfl rfl) rfl (Om (Qh ι3 rfl (b5_3.cell rfl)) rfl ?_)))))))
       refine Oq (Qi κ249 rfl (steps_from _ _ _ _ _)) rfl ?_
       rintro _ _ ⟨rfl, rfl⟩
       refine Om (Qt rfl rfl) rfl (Om (Qc rfl) rfl (We 56 rfl (fun hc21 => ?_) (fun hc21 => ?_)))
       ·
        refine Om (Qg υ259 rfl ς4 rfl rfl rfl) rfl (Om (Qh ι4 rfl (b5_3.cell rfl)) rfl (Om (Qg υ135 rfl ς3 rfl rfl rfl) rfl (Om (Qh ι3 rfl (b1_3.cell rfl)) rfl (Om (Qg υ135 rfl ς3 rfl rfl rfl) rfl (Om (Qh ι3 rfl (b1_3.cell rfl)) rfl ?_)))))
        refine Om (Rf rfl rfl (by rw [IntKind.wrap_i64]; omega)) rfl ?_
        refine Oq (Qi κ249 rfl (steps_from _ _ _ _ _)) rfl ?_
        rintro _ _ ⟨rfl, rfl⟩
        refine Om (Qt rfl rfl) rfl (Om (Qd rfl) rfl (Qf (Qa (Qe (Qe (Qb (Om (Qc rfl) rfl ?_)))))))
        refine Om (Ro rfl) rfl (Qf (Qa (Cu rfl (fun hc22 => ?_) (fun hc22 => ?_))))
        ·
         try simp only [bX] at hc22
         refine Qe (Qb (Om (Qd rfl) rfl (Qf (Qa (Qp (Qu (Qy rfl rfl ?_)))))))
         refine Ret.mk ?_
         have cc_0_3 : Ch No w w3 := (Ch.then (E := No) (c1.and c2) c3 (by intro q h1 h2; rcases h2 with h2 | h2 <;> first | exact h2 | (exfalso; omega)))
         have CH_3 := (Ch.refl (No) w).and cc_0_3
         refine ⟨?_, CH_3⟩
         try clear ka ht
         first | (simp_all [formM]; done) | (simp_all [formM]; omega)
        ·
         try simp only [bX] at hc22
         refine Qn (Qa (Qe (Qe (Qb (Om (Qg υ135 rfl ς3 rfl rfl rfl) rfl (Om (Qh ι3 rfl (b1_3.cell rfl)) rfl (Qf ?_)))))))
         refine Qa (Qw (Qe (Qb (Om (Cm rfl rfl) rfl (Om (Qd rfl) rfl (Qf (Qa ?_)))))))
         refine Qj rfl (fun hc23 => ?_) (fun hc23 => ?_)
         ·
          refine Qe (Qb (Om (Qg υ135 rfl ς3 rfl rfl rfl) rfl (Om (Qh ι3 rfl (b1_3.cell rfl)) rfl (Om (Qg υ135 rfl ς3 rfl rfl rfl) rfl (Om (Qh ι3 rfl (b1_3.cell rfl)) rfl (Om (Rv rfl rfl) rfl (Om (Qd rfl) rfl ?_)))))))
          refine Qf (Qa (Qp (Cd (Qu (Qy rfl rfl (Ret.mk ?_))))))
          have cc_0_3 : Ch No w w3 := (Ch.then (E := No) (c1.and c2) c3 (by intro q h1 h2; rcases h2 with h2 | h2 <;> first | exact h2 | (exfalso; omega)))
          have CH_3 := (Ch.refl (No) w).and cc_0_3
          refine ⟨?_, CH_3⟩
          try clear ka ht
          first | (simp_all [formM]; done) | (simp_all [formM]; omega)
         ·
          refine Qe (Qe (Qb (Om (Cm rfl rfl) rfl (Om (Qd rfl) rfl (Qf (Qa (Qj rfl (fun hc24 => ?_) (fun hc24 => ?_))))))))
          ·
           refine Qn (Qa (Qj rfl (fun hc25 => ?_) (fun hc25 => ?_)))
           ·
            refine Qe (Qb (Om (Qg υ135 rfl ς3 rfl rfl rfl) rfl (Om (Qh ι3 rfl (b1_3.cell rfl)) rfl (Om (Qg υ135 rfl ς3 rfl rfl rfl) rfl (Om (Qh ι3 rfl (b1_3.cell rfl)) rfl (Om (Rv rfl rfl) rfl (Om (Qd rfl) rfl ?_)))))))
            refine Qf (Qa (Qp (Cd (Qu (Qy rfl rfl (Ret.mk ?_))))))
            have cc_0_3 : Ch No w w3 := (Ch.then (E := No) (c1.and c2) c3 (by intro q h1 h2; rcases h2 with h2 | h2 <;> first | exact h2 | (exfalso; omega)))
            have CH_3 := (Ch.refl (No) w).and cc_0_3
            refine ⟨?_, CH_3⟩
            try clear ka ht
            first | (simp_all [formM]; done) | (simp_all [formM]; omega)
           ·
            refine Qe (Qb (Om (Cm rfl rfl) rfl (Om (Qd rfl) rfl (Qf (Qa (Qj rfl (fun hc26 => ?_) (fun hc26 => ?_)))))))
            ·
             refine Qe (Qb (Om (Qg υ135 rfl ς3 rfl rfl rfl) rfl (Om (Qh ι3 rfl (b1_3.cell rfl)) rfl (Om (Qg υ135 rfl ς3 rfl rfl rfl) rfl (Om (Qh ι3 rfl (b1_3.cell rfl)) rfl ?_)))))
             refine Om (Cv rfl rfl (by rw [IntKind.wrap_i64]; omega)) rfl ?_
             refine Om (Rf rfl rfl (by rw [IntKind.wrap_i64]; omega)) rfl ?_
             refine Om (Wb rfl rfl) rfl (Om (Qc rfl) rfl ?_)
             refine Rc (b := _) 4 94 98 rfl (fun hc27 Jhc27 => by
               try simp only [bX] at hc27
               refine Om (Qg υ135 rfl ς3 rfl rfl rfl) rfl (Om (Qh ι3 rfl (b1_3.cell rfl)) rfl (Om (Rv rfl rfl) rfl (Om (Qt rfl rfl) rfl ?_)))
               exact (Qs rfl (Qs rfl (Qs rfl Jhc27)))) (fun hc27 Jhc27 => by
               refine Oy rfl (Oy rfl (Oy rfl (Om (Qm rfl rfl) rfl ?_)))
               exact (Qs rfl (Qs rfl (Qs rfl Jhc27)))) ?_
             refine Om (Qd rfl) rfl (Qf (Qa (Qp (Cd (Qu (Qy rfl rfl (Ret.mk ?_)))))))
             have cc_0_3 : Ch No w w3 := (Ch.then (E := No) (c1.and c2) c3 (by intro q h1 h2; rcases h2 with h2 | h2 <;> first | exact h2 | (exfalso; omega)))
             have CH_3 := (Ch.refl (No) w).and cc_0_3
             refine ⟨?_, CH_3⟩
             try clear ka ht
             first | (simp_all [formM]; done) | (simp_all [formM]; omega)
            ·
             refine Qn (Qo (Qa (Qe (Qb (Om (Qd rfl) rfl (Qf (Qa ?_)))))))
             refine Qp (Qy rfl rfl (Ret.mk ?_))
             have cc_0_3 : Ch No w w3 := (Ch.then (E := No) (c1.and c2) c3 (by intro q h1 h2; rcases h2 with h2 | h2 <;> first | exact h2 | (exfalso; omega)))
             have CH_3 := (Ch.refl (No) w).and cc_0_3
             refine ⟨?_, CH_3⟩
             try clear ka ht
             first | (simp_all [formM]; done) | (simp_all [formM]; omega)
          ·
           refine Qb (Om (Cm rfl rfl) rfl (Om (Qd rfl) rfl (Qf (Qa (Qj rfl (fun hc28 => ?_) (fun hc28 => ?_))))))
           ·
            refine Qe (Qb (Om (Qg υ135 rfl ς3 rfl rfl rfl) rfl (Om (Qh ι3 rfl (b1_3.cell rfl)) rfl (Om (Qg υ135 rfl ς3 rfl rfl rfl) rfl (Om (Qh ι3 rfl (b1_3.cell rfl)) rfl (Om (Rv rfl rfl) rfl (Om (Qd rfl) rfl ?_)))))))
            refine Qf (Qa (Qp (Cd (Qu (Qy rfl rfl (Ret.mk ?_))))))
            have cc_0_3 : Ch No w w3 := (Ch.then (E := No) (c1.and c2) c3 (by intro q h1 h2; rcases h2 with h2 | h2 <;> first | exact h2 | (exfalso; omega)))
            have CH_3 := (Ch.refl (No) w).and cc_0_3
            refine ⟨?_, CH_3⟩
            try clear ka ht
            first | (simp_all [formM]; done) | (simp_all [formM]; omega)
           ·
            refine Qe (Qb (Om (Cm rfl rfl) rfl (Om (Qd rfl) rfl (Qf (Qa (Qj rfl (fun hc29 => ?_) (fun hc29 => ?_)))))))
            ·
             refine Qe (Qb (Om (Qg υ135 rfl ς3 rfl rfl rfl) rfl (Om (Qh ι3 rfl (b1_3.cell rfl)) rfl (Om (Qg υ135 rfl ς3 rfl rfl rfl) rfl (Om (Qh ι3 rfl (b1_3.cell rfl)) rfl ?_)))))
             refine Om (Cv rfl rfl (by rw [IntKind.wrap_i64]; omega)) rfl ?_
             refine Om (Rf rfl rfl (by rw [IntKind.wrap_i64]; omega)) rfl ?_
             refine Om (Wb rfl rfl) rfl (Om (Qc rfl) rfl ?_)
             refine Rc (b := _) 4 94 98 rfl (fun hc30 Jhc30 => by
               try simp only [bX] at hc30
               refine Om (Qg υ135 rfl ς3 rfl rfl rfl) rfl (Om (Qh ι3 rfl (b1_3.cell rfl)) rfl (Om (Rv rfl rfl) rfl (Om (Qt rfl rfl) rfl ?_)))
               exact (Qs rfl (Qs rfl (Qs rfl Jhc30)))) (fun hc30 Jhc30 => by
               refine Oy rfl (Oy rfl (Oy rfl (Om (Qm rfl rfl) rfl ?_)))
               exact (Qs rfl (Qs rfl (Qs rfl Jhc30)))) ?_
             refine Om (Qd rfl) rfl (Qf (Qa (Qp (Cd (Qu (Qy rfl rfl (Ret.mk ?_)))))))
             have cc_0_3 : Ch No w w3 := (Ch.then (E := No) (c1.and c2) c3 (by intro q h1 h2; rcases h2 with h2 | h2 <;> first | exact h2 | (exfalso; omega)))
             have CH_3 := (Ch.refl (No) w).and cc_0_3
             refine ⟨?_, CH_3⟩
             try clear ka ht
             first | (simp_all [formM]; done) | (simp_all [formM]; omega)
            ·
             refine Qn (Qo (Qa (Qe (Qb (Om (Qd rfl) rfl (Qf (Qa ?_)))))))
             refine Qp (Qy rfl rfl (Ret.mk ?_))
             have cc_0_3 : Ch No w w3 := (Ch.then (E := No) (c1.and c2) c3 (by intro q h1 h2; rcases h2 with h2 | h2 <;> first | exact h2 | (exfalso; omega)))
             have CH_3 := (Ch.refl (No) w).and cc_0_3
             refine ⟨?_, CH_3⟩
             try clear ka ht
             first | (simp_all [formM]; done) | (simp_all [formM]; omega)
       ·
        refine Oy rfl (Oy rfl (Oy rfl (Oy rfl (Oy rfl (Oy rfl (Oy rfl (Oy rfl ?_)))))))
        refine Om (Qm rfl rfl) rfl (Om (Qd rfl) rfl (Qf (Qa (Qe (Qe (Qb (Om (Qc rfl) rfl ?_)))))))
        refine Om (Ro rfl) rfl (Qf (Qa (Cw rfl (Qe (Qb (Om (Qd rfl) rfl (Qf ?_)))))))
        refine Qa (Qp (Qu (Qy rfl rfl (Ret.mk ?_))))
        have cc_0_3 : Ch No w w3 := (Ch.then (E := No) (c1.and c2) c3 (by intro q h1 h2; rcases h2 with h2 | h2 <;> first | exact h2 | (exfalso; omega)))
        have CH_3 := (Ch.refl (No) w).and cc_0_3
        refine ⟨?_, CH_3⟩
        try clear ka ht
        first | (simp_all [formM]; done) | (simp_all [formM]; omega)
      ·
       refine Oy rfl (Oy rfl (Oy rfl (Oy rfl (Oy rfl (Oy rfl (Oy rfl (Oy rfl ?_)))))))
       refine Oy rfl (Om (Qm rfl rfl) rfl (Om (Qc rfl) rfl (Oy rfl (Oy rfl (Oy rfl (Oy rfl (Oy rfl ?_)))))))
       refine Oy rfl (Oy rfl (Oy rfl (Om (Qm rfl rfl) rfl (Om (Qd rfl) rfl (Qf (Qa (Qe ?_)))))))
       refine Qe (Qb (Om (Qc rfl) rfl (Om (Ro rfl) rfl (Qf (Qa (Cw rfl (Qe ?_)))))))
       refine Qb (Om (Qd rfl) rfl (Qf (Qa (Qp (Qu (Qy rfl rfl (Ret.mk ?_)))))))
       have cc_0_3 : Ch No w w3 := (Ch.then (E := No) (c1.and c2) c3 (by intro q h1 h2; rcases h2 with h2 | h2 <;> first | exact h2 | (exfalso; omega)))
       have CH_3 := (Ch.refl (No) w).and cc_0_3
       refine ⟨?_, CH_3⟩
       try clear ka ht
       first | (simp_all [formM]; done) | (simp_all [formM]; omega)
     ·
      refine Oy rfl (Oy rfl (Oy rfl (Oy rfl (Oy rfl (Om (Qm rfl rfl) rfl (Om (Qc rfl) rfl (Oy rfl ?_)))))))
      refine Oy rfl (Oy rfl (Oy rfl (Oy rfl (Oy rfl (Oy rfl (Oy rfl (Oy rfl ?_)))))))
      refine Om (Qm rfl rfl) rfl (Om (Qc rfl) rfl (Oy rfl (Oy rfl (Oy rfl (Oy rfl (Oy rfl (Oy rfl ?_)))))))
      refine Oy rfl (Oy rfl (Om (Qm rfl rfl) rfl (Om (Qd rfl) rfl (Qf (Qa (Qe (Qe ?_)))))))
      refine Qb (Om (Qc rfl) rfl (Om (Ro rfl) rfl (Qf (Qa (Cw rfl (Qe (Qb ?_)))))))
      refine Om (Qd rfl) rfl (Qf (Qa (Qp (Qu (Qy rfl rfl (Ret.mk ?_))))))
      have cc_0_3 : Ch No w w3 := (Ch.then (E := No) (c1.and c2) c3 (by intro q h1 h2; rcases h2 with h2 | h2 <;> first | exact h2 | (exfalso; omega)))
      have CH_3 := (Ch.refl (No) w).and cc_0_3
      refine ⟨?_, CH_3⟩
      try clear ka ht
      first | (simp_all [formM]; done) | (simp_all [formM]; omega)
    ·
     refine Oy rfl (Oy rfl (Oy rfl (Oy rfl (Oy rfl (Om (Qm rfl rfl) rfl (Om (Qc rfl) rfl (Oy rfl ?_)))))))
     refine Oy rfl (Oy rfl (Oy rfl (Oy rfl (Om (Qm rfl rfl) rfl (Om (Qc rfl) rfl (Oy rfl (Oy rfl ?_)))))))
     refine Oy rfl (Oy rfl (Oy rfl (Oy rfl (Oy rfl (Oy rfl (Oy rfl (Om (Qm rfl rfl) rfl ?_)))))))
     refine Om (Qc rfl) rfl (Oy rfl (Oy rfl (Oy rfl (Oy rfl (Oy rfl (Oy rfl (Oy rfl ?_)))))))
     refine Oy rfl (Om (Qm rfl rfl) rfl (Om (Qd rfl) rfl (Qf (Qa (Qe (Qe (Qb ?_)))))))
     refine Om (Qc rfl) rfl (Om (Ro rfl) rfl (Qf (Qa (Cw rfl (Qe (Qb (Om (Qd rfl) rfl ?_)))))))
     refine Qf (Qa (Qp (Qu (Qy rfl rfl (Ret.mk ?_)))))
     have cc_0_3 : Ch No w w3 := (Ch.then (E := No) (c1.and c2) c3 (by intro q h1 h2; rcases h2 with h2 | h2 <;> first | exact h2 | (exfalso; omega)))
     have CH_3 := (Ch.refl (No) w).and cc_0_3
     refine ⟨?_, CH_3⟩
     try clear ka ht
     first | (simp_all [formM]; done) | (simp_all [formM]; omega)
   ·
    refine Oy rfl (Oy rfl (Oy rfl (Om (Qm rfl rfl) rfl (Om (Qc rfl) rfl (Oy rfl (Oy rfl (Oy rfl ?_)))))))
    refine Oy rfl (Oy rfl (Om (Qm rfl rfl) rfl (Om (Qc rfl) rfl (Oy rfl (Oy rfl (Oy rfl (Oy rfl ?_)))))))
    refine Oy rfl (Om (Qm rfl rfl) rfl (Om (Qc rfl) rfl (Oy rfl (Oy rfl (Oy rfl (Oy rfl (Oy rfl ?_)))))))
    refine Oy rfl (Oy rfl (Oy rfl (Oy rfl (Om (Qm rfl rfl) rfl (Om (Qc rfl) rfl (Oy rfl (Oy rfl ?_)))))))
    refine Oy rfl (Oy rfl (Oy rfl (Oy rfl (Oy rfl (Oy rfl (Om (Qm rfl rfl) rfl (Om (Qd rfl) rfl ?_)))))))
    refine Qf (Qa (Qe (Qe (Qb (Om (Qc rfl) rfl (Om (Ro rfl) rfl (Qf ?_)))))))
    refine Qa (Cw rfl (Qe (Qb (Om (Qd rfl) rfl (Qf (Qa (Qp ?_)))))))
    refine Qu (Qy rfl rfl (Ret.mk ?_))
    have cc_0_3 : Ch No w w3 := (Ch.then (E := No) (c1.and c2) c3 (by intro q h1 h2; rcases h2 with h2 | h2 <;> first | exact h2 | (exfalso; omega)))
    have CH_3 := (Ch.refl (No) w).and cc_0_3
    refine ⟨?_, CH_3⟩
    try clear ka ht
    first | (simp_all [formM]; done) | (simp_all [formM]; omega)
theorem steps_Acts (s : Stp) (w : World) (st : StT w) (hn : -1000000000 ≤ s.n ∧ s.n ≤ 1000000000) :
  Calls Tryz.prog 259 #[.agg #[.int .i64 s.op, .int .i64 s.dst, .int .i64 s.src, .int .i64 s.jump, .int .i64 s.count, .int .i64 s.n, .int .i64 s.k]] w (Ret (fun v w' => v = .int .i64 (actsM s) ∧ Ch No w w')) := by
 refine calls_of_VC (args := [.agg #[.int .i64 s.op, .int .i64 s.dst, .int .i64 s.src, .int .i64 s.jump, .int .i64 s.count, .int .i64 s.n, .int .i64 s.k]]) Tryz.func259 rfl Tryz.ntmps259 rfl (Qe (Qb (Oq (Cj rfl) rfl ?_)))
 rintro _ w1 ⟨p1, rfl, N1⟩
 have c1 := N1.ch
 have e1 := N1.p; have z1 := N1.size
 have b1 := Bk.new N1
 refine Om (Qd rfl) rfl (Qf (Qa (Qe (Qe (Qb (Om (Qr ι135 ς135 rfl rfl (b1.all' rfl)) rfl ?_))))))
 have st_1 := st.keep c1
 refine Oq (Qi Tryz.call202 rfl (steps_form s _ st_1 hn)) rfl ?_
 rintro _ w2 ⟨rfl, c2⟩
 have z2 := c2.size
 refine Om (Ro rfl) rfl (Qf (Qa (Cu rfl (fun hc1 => ?_) (fun hc1 => ?_))))
 ·
  try simp only [bX] at hc1
  refine Qe (Qb (Om (Qd rfl) rfl (Qf (Qa (Qp (Qu (Qy rfl rfl ?_)))))))
  refine Ret.mk ?_
  have CH_2 := (Ch.refl (No) w).and (c1.trans c2)
  exact ⟨by rw [actsM, if_neg (by simpa using hc1)], CH_2⟩
 ·
  try simp only [bX] at hc1
  refine Qn (Qa (Qe (Qb (Om (Qg υ135 rfl ς3 rfl rfl rfl) rfl ?_))))
  have b1_2 := b1.keep c2
  refine Om (Qh ι3 rfl (b1_2.cell rfl)) rfl (Om (Qd rfl) rfl (Qf (Qa (Qp (Qy rfl rfl (Ret.mk ?_))))))
  have CH_2 := (Ch.refl (No) w).and (c1.trans c2)
  exact ⟨by rw [actsM, if_pos (by simpa using hc1)]; rfl, CH_2⟩
end Go.Tm
