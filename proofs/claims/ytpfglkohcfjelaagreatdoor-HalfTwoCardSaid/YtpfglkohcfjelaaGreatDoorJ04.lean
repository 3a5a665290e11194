/- Lemmas of this claim, joined by program. Walks of functions: steps. Conditions: each lemma names its own. -/
import Derived.Test.YtpfglkohcfjelaaGreatDoorJ03
set_option linter.all false
namespace Go.Tm
set_option maxRecDepth 100000
open Go.RowKit Go.Proofs Go.Proofs.Tryz
theorem Rn.indexArr {P : Program} {n : Fr} {k : K} {w : World} {d : Option Nat} {ty : TypeId} {pos : String} {aft : Array Edge} {g : Option (Nat × Bool)} {t e : TypeId} {m sz : Nat} {x y : Operand} {ad : Addr} {q : IntKind} {i : Int} (ht : P.underlying t = some (.array m e)) (hz : ∀ w, (sizeOf e).run P w = .ok sz w)
  (hx : ev k x = some (.pointer (some ad))) (hy : ev k y = some (.int q i)) (h0 : 0 ≤ i := by omega) (h1 : i < m := by omega) :
  Rn P n k w { dst := d, op := .indexAddr t x y, type := ty, pos := pos, after := aft, guard := g } (.pointer (some (ad.add (i.toNat * sz)))) :=
 fun a ha => by simp [execOp, ha.eval hx, ha.eval hy, Instr.indexAt, run_underlying ht, asIntOf, Instr.sureAddr, h0, h1, hz]
def StT (w : World) : Prop := ∃ nm : Nat → ByteArray, ∀ i, i < 12 → CaR (· < 24) w ((⟨20, 0, none⟩ : Addr).add (i * 5)) [.string (nm i), .bool (kSrc i), .bool (kJmp i), .int .i64 (kN i), .bool (kK i)]
theorem StT.to {D : Nat → Prop} {w w' : World} (h : StT w) (c : Ch D w w') (hd : ∀ q, q < w.heap.size → q < 24 → isC w q → ¬ D q := by first | exact fun _ _ _ _ => id | (intro q h1 h2 hx h3; omega)) : StT w' := by
 obtain ⟨nm, h⟩ := h
 exact ⟨nm, fun i hi => (h i hi).to c hd⟩
theorem StT.keep {w w' : World} (h : StT w) (c : Ch No w w') : StT w' := h.to c fun _ _ _ _ => id
theorem steps_from (b : Bool) (x lo hi : Int) (w : World) :
  Calls prog 249 #[.bool b, Kg x, Kg lo, Kg hi] w (Ret (fun v w' => v = .bool (fromM b x lo hi) ∧ w = w')) := by
 refine Ku func249 O ntmps249 O (Kb (Ww O O (Wz (Qe ?_))))
 refine Qb (Wu O O (Om (Rm O) O (Ka (Cq O (fun hc1 => ?_) (fun hc1 => ?_)))))
 ·
  try simp only [bX] at hc1
  refine Kb (Wu O O (Om (Cg O O) O (Ww O O (Ka (Qp ?_)))))
  refine Qw (Qx O O (Kx (⟨?_, O⟩)))
  first | (simp_all [fromM]; done) | (cases b <;> simp_all [fromM])
 try simp only [bX] at hc1
 refine Qn (Qa (Kb (Wu O O (Wu O O (Om (Ry O O) O (Wu O O ?_))))))
 refine Re (b := _) 4 16 20 O (fun hc2 Jhc2 => by
   try simp only [bX] at hc2
   refine Wu O O (Wu O O (Om (Ro O O) O (Om (Qr O O) O ?_)))
   exact (Qo O (Qo O (Qo O Jhc2)))) (fun hc2 Jhc2 => by
   refine Oy O (Oy O (Oy O (Om (Qm O O) O ?_)))
   exact (Qo O (Qo O (Qo O Jhc2)))) ?_
 refine Ww O O (Ka (Qp (Qx O O (Kx (⟨?_, O⟩)))))
 first | (simp_all [fromM]; done) | (cases b <;> simp_all [fromM])
theorem steps_Name (n : Int) (w : World) (st : StT w) :
  Calls prog 248 #[Kg n] w (Ret (fun v w' => ∃ s, v = .tuple #[.string s, .bool (decide (1 ≤ n ∧ n ≤ 11))] ∧ w = w')) := by
 refine Ku func248 O ntmps248 O (Kb (Ww O O (Ww O O (Wz ?_))))
 refine Kb (Wu O O (Om (Co O O) O (Wu O O ?_)))
 refine Cz (b := _) 3 6 9 O (fun hc1 Jhc1 => by
   refine Oy O (Oy O (Om (Qr O O) O ?_))
   exact (Qo O (Qo O Jhc1))) (fun hc1 Jhc1 => by
   try simp only [bX] at hc1
   refine Wu O O (Om (Rb O O) O (Om (Qm O O) O ?_))
   exact (Qo O (Qo O Jhc1))) ?_
 refine Ka (Cq O (fun hc2 => ?_) (fun hc2 => ?_))
 ·
  try simp only [bX] at hc2
  refine Kb (Ww O O (Ww O O (Ka (Qp (Qw ?_)))))
  refine Ra O O O (Kx ?_)
  exact ⟨_, by rw [decide_eq_false (by omega)], O⟩
 try simp only [bX] at hc2
 refine Qn (Qa (Qe ?_))
 obtain ⟨nm, ht⟩ := st
 have ka := ht n.toNat (by omega)
 refine Qb (Wu O O (Om (Rn.indexArr υ260 ς259 O O) O (Om (Rn.fieldA υ259 O ς9 O O O) O (Om (Qg ι9 O (ka.1 0 _ O)) O (Ww O O (Ww O O (Qf ?_)))))))
 refine Qa (Qp (Ra O O O (Kx ?_)))
 exact ⟨_, by rw [decide_eq_true (by omega)], O⟩
set_option maxHeartbeats 4000000 in
theorem steps_form (s : Stp) (w : World) (st : StT w) (hn : -1000000000 ≤ s.n ∧ s.n ≤ 1000000000) :
  Calls prog 202 #[.agg #[Kg s.op, Kg s.dst, Kg s.src, Kg s.jump, Kg s.count, Kg s.n, Kg s.k]] w (Ret (fun v w' => v = .bool (formM s) ∧ Ch No w w')) := by
 refine Ku func202 O ntmps202 O (Kb (Km (Cp O) O ?_))
 intro p1 w1 b1 c1 e1 z1
 refine Ww O O (Wz (Kb (Om (Qh υ135 O ς3 O O O) O (Om (Qg ι3 O (b1.cell O)) O ?_))))
 have st_1 := st.keep c1
 refine Oq (Qi call248 O (steps_Name _ _ st_1)) O ?_
 rintro _ _ ⟨ns2, rfl, rfl⟩
 refine Wu O O (Om (Qu O O) O (Om (Qu O O) O (Ww O O (Ww O O (Wz ?_)))))
 refine Qb (Wu O O (Om (Rn.not_if O) O (Ka (Qj O (fun hc1 => ?_) (fun hc1 => ?_)))))
 ·
  refine Kb (Ww O O (Ka (Qp (Qw (Qx O O ?_)))))
  refine Kx ?_
  have CH_1 := c1
  refine ⟨?_, CH_1⟩
  try clear ka ht
  first | (simp_all [formM]; done) | (simp_all [formM]; omega)
 refine Qn (Qa (Qe ?_))
 obtain ⟨nm, ht⟩ := st_1
 have ka := ht s.op.toNat (by omega)
 refine Qb (Om (Qh υ135 O ς3 O O O) O (Om (Qg ι3 O (b1.cell O)) O (Om (Rn.indexArr υ260 ς259 O O) O (Om (Qz isAgg259 ς259 O O ka.1) O (Km (Ck zeroValue259) O ?_)))))
 intro p2 w2 b5 c2 e2 z2
 refine Ks (Cl ς259 O O O O b5) O ?_
 intro w3 c3 z3 b5_3
 refine Wy (Ww O O (Wz ?_))
 refine Kb (Om (Qh υ135 O ς3 O O O) O ?_)
 have cc_1_3 : Ch No w1 w3 := (Ch.then (E := No) c2 c3)
 have b1_3 := b1.keep cc_1_3
 refine Om (Qg ι3 O (b1_3.cell O)) O (Om (Cg O O) O (Ka (Qj O (fun hc2 => ?_) (fun hc2 => ?_))))
 ·
  refine Qb (Ww O O (Wy (Om (Qh υ135 O ς3 O O O) O (Om (Qg ι3 O (b1_3.cell O)) O ?_))))
  refine Oq (Qi κ249 O (steps_from _ _ _ _ _)) O ?_
  rintro _ _ ⟨rfl, rfl⟩
  refine Wu O O (Wh 26 O (fun hc3 => ?_) (fun hc3 => ?_))
  ·
   refine Om (Qh υ135 O ς3 O O O) O (Om (Qg ι3 O (b1_3.cell O)) O (Oq (Qi κ249 O (steps_from _ _ _ _ _)) O ?_))
   rintro _ _ ⟨rfl, rfl⟩
   refine Om (Qr O O) O (Wu O O (Wh 31 O (fun hc4 => ?_) (fun hc4 => ?_)))
   ·
    refine Om (Qh υ259 O ς4 O O O) O (Om (Qg ι4 O (b5_3.cell O)) O (Om (Qh υ135 O ς3 O O O) O (Om (Qg ι3 O (b1_3.cell O)) O (Oq (Qi κ249 O (steps_from _ _ _ _ _)) O ?_))))
    rintro _ _ ⟨rfl, rfl⟩
    refine Om (Qr O O) O (Wu O O (Wh 38 O (fun hc5 => ?_) (fun hc5 => ?_)))
    ·
     refine Om (Qh υ259 O ς4 O O O) O (Om (Qg ι4 O (b5_3.cell O)) O (Om (Qh υ135 O ς3 O O O) O (Om (Qg ι3 O (b1_3.cell O)) O (Oq (Qi κ249 O (steps_from _ _ _ _ _)) O ?_))))
     rintro _ _ ⟨rfl, rfl⟩
     refine Om (Qr O O) O (Wu O O (Wh 45 O (fun hc6 => ?_) (fun hc6 => ?_)))
     ·
      refine Om (Qh υ259 O ς3 O O O) O (Om (Qg ι3 O (b5_3.cell O)) O (Om (Rb O O) O (Om (Qh υ135 O ς3 O O O) O (Om (Qg ι3 O (b1_3.cell O)) O (Wu O O (Om (Qh υ259 O ς3 O O O) O (Om (Qg ι3 O (b5_3.cell O)) O ?_)))))))
      refine Oq (Qi κ249 O (steps_from _ _ _ _ _)) O ?_
      rintro _ _ ⟨rfl, rfl⟩
      refine Om (Qr O O) O (Wu O O (Wh 56 O (fun hc7 => ?_) (fun hc7 => ?_)))
      ·
       refine Om (Qh υ259 O ς4 O O O) O (Om (Qg ι4 O (b5_3.cell O)) O (Om (Qh υ135 O ς3 O O O) O (Om (Qg ι3 O (b1_3.cell O)) O (Om (Qh υ135 O ς3 O O O) O (Om (Qg ι3 O (b1_3.cell O)) O ?_)))))
       refine Om (Rg O O) O ?_
       refine Oq (Qi κ249 O (steps_from _ _ _ _ _)) O ?_
       rintro _ _ ⟨rfl, rfl⟩
       refine Om (Qr O O) O (Ww O O (Wz (Kb (Wu O O ?_))))
       refine Om (Rm O) O (Ka (Cq O (fun hc8 => ?_) (fun hc8 => ?_)))
       ·
        try simp only [bX] at hc8
        refine Kb (Ww O O (Ka (Qp (Qw (Qx O O ?_)))))
        refine Kx ?_
        have cc_0_3 : Ch No w w3 := (Ch.then (E := No) (c1.and c2) c3)
        have CH_3 := cc_0_3
        refine ⟨?_, CH_3⟩
        try clear ka ht
        first | (simp_all [formM]; done) | (simp_all [formM]; omega)
       try simp only [bX] at hc8
       refine Qn (Qa (Qe (Kb (Om (Qh υ135 O ς3 O O O) O (Om (Qg ι3 O (b1_3.cell O)) O (Qf ?_))))))
       refine Qa (Qt (Kb (Om (Cg O O) O (Ww O O (Ka ?_)))))
       refine Qj O (fun hc9 => ?_) (fun hc9 => ?_)
       ·
        refine Kb (Om (Qh υ135 O ς3 O O O) O (Om (Qg ι3 O (b1_3.cell O)) O (Om (Qh υ135 O ς3 O O O) O (Om (Qg ι3 O (b1_3.cell O)) O (Om (Ro O O) O (Ww O O ?_))))))
        refine Ka (Qp (Cb (Qw (Qx O O (Kx ?_)))))
        have cc_0_3 : Ch No w w3 := (Ch.then (E := No) (c1.and c2) c3)
        have CH_3 := cc_0_3
        refine ⟨?_, CH_3⟩
        try clear ka ht
        first | (simp_all [formM]; done) | (simp_all [formM]; omega)
       refine Qe (Kb (Om (Cg O O) O (Ww O O (Ka (Qj O (fun hc10 => ?_) (fun hc10 => ?_))))))
       ·
        refine Qn (Qa (Qj O (fun hc11 => ?_) (fun hc11 => ?_)))
        ·
         refine Kb (Om (Qh υ135 O ς3 O O O) O (Om (Qg ι3 O (b1_3.cell O)) O (Om (Qh υ135 O ς3 O O O) O (Om (Qg ι3 O (b1_3.cell O)) O (Om (Ro O O) O (Ww O O ?_))))))
         refine Ka (Qp (Cb (Qw (Qx O O (Kx ?_)))))
         have cc_0_3 : Ch No w w3 := (Ch.then (E := No) (c1.and c2) c3)
         have CH_3 := cc_0_3
         refine ⟨?_, CH_3⟩
         try clear ka ht
         first | (simp_all [formM]; done) | (simp_all [formM]; omega)
        refine Kb (Om (Cg O O) O (Ww O O (Ka (Qj O (fun hc12 => ?_) (fun hc12 => ?_)))))
        ·
         refine Kb (Om (Qh υ135 O ς3 O O O) O (Om (Qg ι3 O (b1_3.cell O)) O (Om (Qh υ135 O ς3 O O O) O (Om (Qg ι3 O (b1_3.cell O)) O ?_))))
         refine Om (Cy O O) O ?_
         refine Om (Rg O O) O ?_
         refine Om (Ry O O) O (Wu O O ?_)
         refine Re (b := _) 4 94 98 O (fun hc13 Jhc13 => by
           try simp only [bX] at hc13
           refine Om (Qh υ135 O ς3 O O O) O (Om (Qg ι3 O (b1_3.cell O)) O (Om (Ro O O) O (Om (Qr O O) O ?_)))
           exact (Qo O (Qo O (Qo O Jhc13)))) (fun hc13 Jhc13 => by
           refine Oy O (Oy O (Oy O (Om (Qm O O) O ?_)))
           exact (Qo O (Qo O (Qo O Jhc13)))) ?_
         refine Ww O O (Ka (Qp (Cb (Qw (Qx O O (Kx ?_))))))
         have cc_0_3 : Ch No w w3 := (Ch.then (E := No) (c1.and c2) c3)
         have CH_3 := cc_0_3
         refine ⟨?_, CH_3⟩
         try clear ka ht
         first | (simp_all [formM]; done) | (simp_all [formM]; omega)
        refine Qn (Ql (Qa (Kb (Ww O O (Ka ?_)))))
        refine Qp (Qx O O (Kx ?_))
        have cc_0_3 : Ch No w w3 := (Ch.then (E := No) (c1.and c2) c3)
        have CH_3 := cc_0_3
        refine ⟨?_, CH_3⟩
        try clear ka ht
        first | (simp_all [formM]; done) | (simp_all [formM]; omega)
       refine Qb (Om (Cg O O) O (Ww O O (Ka (Qj O (fun hc14 => ?_) (fun hc14 => ?_)))))
       ·
        refine Kb (Om (Qh υ135 O ς3 O O O) O (Om (Qg ι3 O (b1_3.cell O)) O (Om (Qh υ135 O ς3 O O O) O (Om (Qg ι3 O (b1_3.cell O)) O (Om (Ro O O) O (Ww O O ?_))))))
        refine Ka (Qp (Cb (Qw (Qx O O (Kx ?_)))))
        have cc_0_3 : Ch No w w3 := (Ch.then (E := No) (c1.and c2) c3)
        have CH_3 := cc_0_3
        refine ⟨?_, CH_3⟩
        try clear ka ht
        first | (simp_all [formM]; done) | (simp_all [formM]; omega)
       refine Kb (Om (Cg O O) O (Ww O O (Ka (Qj O (fun hc15 => ?_) (fun hc15 => ?_)))))
       ·
        refine Kb (Om (Qh υ135 O ς3 O O O) O (Om (Qg ι3 O (b1_3.cell O)) O (Om (Qh υ135 O ς3 O O O) O (Om (Qg ι3 O (b1_3.cell O)) O ?_))))
        refine Om (Cy O O) O ?_
        refine Om (Rg O O) O ?_
        refine Om (Ry O O) O (Wu O O ?_)
        refine Re (b := _) 4 94 98 O (fun hc16 Jhc16 => by
          try simp only [bX] at hc16
          refine Om (Qh υ135 O ς3 O O O) O (Om (Qg ι3 O (b1_3.cell O)) O (Om (Ro O O) O (Om (Qr O O) O ?_)))
          exact (Qo O (Qo O (Qo O Jhc16)))) (fun hc16 Jhc16 => by
          refine Oy O (Oy O (Oy O (Om (Qm O O) O ?_)))
          exact (Qo O (Qo O (Qo O Jhc16)))) ?_
        refine Ww O O (Ka (Qp (Cb (Qw (Qx O O (Kx ?_))))))
        have cc_0_3 : Ch No w w3 := (Ch.then (E := No) (c1.and c2) c3)
        have CH_3 := cc_0_3
        refine ⟨?_, CH_3⟩
        try clear ka ht
        first | (simp_all [formM]; done) | (simp_all [formM]; omega)
       refine Qn (Ql (Qa (Kb (Ww O O (Ka ?_)))))
       refine Qp (Qx O O (Kx ?_))
       have cc_0_3 : Ch No w w3 := (Ch.then (E := No) (c1.and c2) c3)
       have CH_3 := cc_0_3
       refine ⟨?_, CH_3⟩
       try clear ka ht
       first | (simp_all [formM]; done) | (simp_all [formM]; omega)
      refine Oy O (Oy O (Oy O (Oy O (Oy O (Oy O (Oy O (Oy O ?_)))))))
      refine Om (Qm O O) O (Ww O O (Wz (Kb (Wu O O ?_))))
      refine Om (Rm O) O (Ka (Rd O (Kb (Ww O O (Qf ?_)))))
      refine Qa (Qp (Qw (Qx O O (Kx ?_))))
      have cc_0_3 : Ch No w w3 := (Ch.then (E := No) (c1.and c2) c3)
      have CH_3 := cc_0_3
      refine ⟨?_, CH_3⟩
      try clear ka ht
      first | (simp_all [formM]; done) | (simp_all [formM]; omega)
     refine Oy O (Oy O (Oy O (Oy O (Oy O (Oy O (Oy O (Oy O ?_)))))))
     refine Oy O (Om (Qm O O) O (Wu O O (Oy O (Oy O (Oy O (Oy O (Oy O ?_)))))))
     refine Oy O (Oy O (Oy O (Om (Qm O O) O (Ww O O (Wz ?_)))))
     refine Kb (Wu O O (Om (Rm O) O (Ka (Rd O (Qe ?_)))))
     refine Qb (Ww O O (Ka (Qp (Qw (Qx O O (Kx ?_))))))
     have cc_0_3 : Ch No w w3 := (Ch.then (E := No) (c1.and c2) c3)
     have CH_3 := cc_0_3
     refine ⟨?_, CH_3⟩
     try clear ka ht
     first | (simp_all [formM]; done) | (simp_all [formM]; omega)
    refine Oy O (Oy O (Oy O (Oy O (Oy O (Om (Qm O O) O (Wu O O (Oy O ?_)))))))
    refine Oy O (Oy O (Oy O (Oy O (Oy O (Oy O (Oy O (Oy O ?_)))))))
    refine Om (Qm O O) O (Wu O O (Oy O (Oy O (Oy O (Oy O (Oy O (Oy O ?_)))))))
    refine Oy O (Oy O (Om (Qm O O) O (Ww O O (Wz (Qe ?_)))))
    refine Qb (Wu O O (Om (Rm O) O (Ka (Rd O (Kb ?_)))))
    refine Ww O O (Ka (Qp (Qw (Qx O O (Kx ?_)))))
    have cc_0_3 : Ch No w w3 := (Ch.then (E := No) (c1.and c2) c3)
    have CH_3 := cc_0_3
    refine ⟨?_, CH_3⟩
    try clear ka ht
    first | (simp_all [formM]; done) | (simp_all [formM]; omega)
   refine Oy O (Oy O (Oy O (Oy O (Oy O (Om (Qm O O) O (Wu O O (Oy O ?_)))))))
   refine Oy O (Oy O (Oy O (Oy O (Om (Qm O O) O (Wu O O (Oy O (Oy O ?_)))))))
   refine Oy O (Oy O (Oy O (Oy O (Oy O (Oy O (Oy O (Om (Qm O O) O ?_)))))))
   refine Wu O O (Oy O (Oy O (Oy O (Oy O (Oy O (Oy O (Oy O ?_)))))))
   refine Oy O (Om (Qm O O) O (Ww O O (Wz (Kb ?_))))
   refine Wu O O (Om (Rm O) O (Ka (Rd O (Kb (Ww O O ?_)))))
   refine Ka (Qp (Qw (Qx O O (Kx ?_))))
   have cc_0_3 : Ch No w w3 := (Ch.then (E := No) (c1.and c2) c3)
   have CH_3 := cc_0_3
   refine ⟨?_, CH_3⟩
   try clear ka ht
   first | (simp_all [formM]; done) | (simp_all [formM]; omega)
  refine Oy O (Oy O (Oy O (Om (Qm O O) O (Wu O O (Oy O (Oy O (Oy O ?_)))))))
  refine Oy O (Oy O (Om (Qm O O) O (Wu O O (Oy O (Oy O (Oy O (Oy O ?_)))))))
  refine Oy O (Om (Qm O O) O (Wu O O (Oy O (Oy O (Oy O (Oy O (Oy O ?_)))))))
  refine Oy O (Oy O (Oy O (Oy O (Om (Qm O O) O (Wu O O (Oy O (Oy O ?_)))))))
  refine Oy O (Oy O (Oy O (Oy O (Oy O (Oy O (Om (Qm O O) O (Ww O O ?_)))))))
  refine Wz (Kb (Wu O O (Om (Rm O) O (Qf ?_))))
  refine Qa (Rd O (Kb (Ww O O (Ka (Qp ?_)))))
  refine Qw (Qx O O (Kx ?_))
  have cc_0_3 : Ch No w w3 := (Ch.then (E := No) (c1.and c2) c3)
  have CH_3 := cc_0_3
  refine ⟨?_, CH_3⟩
  try clear ka ht
  first | (simp_all [formM]; done) | (simp_all [formM]; omega)
 refine Qn (Qa (Kb (Om (Qh υ135 O ς3 O O O) O (Om (Qg ι3 O (b1_3.cell O)) O (Oq (Qi κ249 O (steps_from _ _ _ _ _)) O ?_)))))
 rintro _ _ ⟨rfl, rfl⟩
 refine Wu O O (Wh 26 O (fun hc17 => ?_) (fun hc17 => ?_))
 ·
  refine Om (Qh υ135 O ς3 O O O) O (Om (Qg ι3 O (b1_3.cell O)) O (Oq (Qi κ249 O (steps_from _ _ _ _ _)) O ?_))
  rintro _ _ ⟨rfl, rfl⟩
  refine Om (Qr O O) O (Wu O O (Wh 31 O (fun hc18 => ?_) (fun hc18 => ?_)))
  ·
   refine Om (Qh υ259 O ς4 O O O) O (Om (Qg ι4 O (b5_3.cell O)) O (Om (Qh υ135 O ς3 O O O) O (Om (Qg ι3 O (b1_3.cell O)) O (Oq (Qi κ249 O (steps_from _ _ _ _ _)) O ?_))))
   rintro _ _ ⟨rfl, rfl⟩
   refine Om (Qr O O) O (Wu O O (Wh 38 O (fun hc19 => ?_) (fun hc19 => ?_)))
   ·
    refine Om (Qh υ259 O ς4 O O O) O (Om (Qg ι4 O (b5_3.cell O)) O (Om (Qh υ135 O ς3 O O O) O (Om (Qg ι3 O (b1_3.cell O)) O (Oq (Qi κ249 O (steps_from _ _ _ _ _)) O ?_))))
    rintro _ _ ⟨rfl, rfl⟩
    refine Om (Qr O O) O (Wu O O (Wh 45 O (fun hc20 => ?_) (fun hc20 => ?_)))
    ·
     refine Om (Qh υ259 O ς3 O O O) O (Om (Qg ι3 O (b5_3.cell O)) O (Om (Rb O O) O (Om (Qh υ135 O ς3 O O O) O (Om (Qg ι3 O (b1_3.cell O)) O (Wu O O (Om (Qh υ259 O ς3 O O O) O (Om (Qg ι3 O (b5_3.cell O)) O ?_)))))))
     refine Oq (Qi κ249 O (steps_from _ _ _ _ _)) O ?_
     rintro _ _ ⟨rfl, rfl⟩
     refine Om (Qr O O) O (Wu O O (Wh 56 O (fun hc21 => ?_) (fun hc21 => ?_)))
     ·
      refine Om (Qh υ259 O ς4 O O O) O (Om (Qg ι4 O (b5_3.cell O)) O (Om (Qh υ135 O ς3 O O O) O (Om (Qg ι3 O (b1_3.cell O)) O (Om (Qh υ135 O ς3 O O O) O (Om (Qg ι3 O (b1_3.cell O)) O ?_)))))
      refine Om (Rg O O) O ?_
      refine Oq (Qi κ249 O (steps_from _ _ _ _ _)) O ?_
      rintro _ _ ⟨rfl, rfl⟩
      refine Om (Qr O O) O (Ww O O (Wz (Kb (Wu O O ?_))))
      refine Om (Rm O) O (Ka (Cq O (fun hc22 => ?_) (fun hc22 => ?_)))
      ·
       try simp only [bX] at hc22
       refine Kb (Ww O O (Ka (Qp (Qw (Qx O O ?_)))))
       refine Kx ?_
       have cc_0_3 : Ch No w w3 := (Ch.then (E := No) (c1.and c2) c3)
       have CH_3 := cc_0_3
       refine ⟨?_, CH_3⟩
       try clear ka ht
       first | (simp_all [formM]; done) | (simp_all [formM]; omega)
      try simp only [bX] at hc22
      refine Qn (Qa (Qe (Kb (Om (Qh υ135 O ς3 O O O) O (Om (Qg ι3 O (b1_3.cell O)) O (Qf ?_))))))
      refine Qa (Qt (Kb (Om (Cg O O) O (Ww O O (Ka ?_)))))
      refine Qj O (fun hc23 => ?_) (fun hc23 => ?_)
      ·
       refine Kb (Om (Qh υ135 O ς3 O O O) O (Om (Qg ι3 O (b1_3.cell O)) O (Om (Qh υ135 O ς3 O O O) O (Om (Qg ι3 O (b1_3.cell O)) O (Om (Ro O O) O (Ww O O ?_))))))
       refine Ka (Qp (Cb (Qw (Qx O O (Kx ?_)))))
       have cc_0_3 : Ch No w w3 := (Ch.then (E := No) (c1.and c2) c3)
       have CH_3 := cc_0_3
       refine ⟨?_, CH_3⟩
       try clear ka ht
       first | (simp_all [formM]; done) | (simp_all [formM]; omega)
      refine Qe (Kb (Om (Cg O O) O (Ww O O (Ka (Qj O (fun hc24 => ?_) (fun hc24 => ?_))))))
      ·
       refine Qn (Qa (Qj O (fun hc25 => ?_) (fun hc25 => ?_)))
       ·
        refine Kb (Om (Qh υ135 O ς3 O O O) O (Om (Qg ι3 O (b1_3.cell O)) O (Om (Qh υ135 O ς3 O O O) O (Om (Qg ι3 O (b1_3.cell O)) O (Om (Ro O O) O (Ww O O ?_))))))
        refine Ka (Qp (Cb (Qw (Qx O O (Kx ?_)))))
        have cc_0_3 : Ch No w w3 := (Ch.then (E := No) (c1.and c2) c3)
        have CH_3 := cc_0_3
        refine ⟨?_, CH_3⟩
        try clear ka ht
        first | (simp_all [formM]; done) | (simp_all [formM]; omega)
       refine Kb (Om (Cg O O) O (Ww O O (Ka (Qj O (fun hc26 => ?_) (fun hc26 => ?_)))))
       ·
        refine Kb (Om (Qh υ135 O ς3 O O O) O (Om (Qg ι3 O (b1_3.cell O)) O (Om (Qh υ135 O ς3 O O O) O (Om (Qg ι3 O (b1_3.cell O)) O ?_))))
        refine Om (Cy O O) O ?_
        refine Om (Rg O O) O ?_
        refine Om (Ry O O) O (Wu O O ?_)
        refine Re (b := _) 4 94 98 O (fun hc27 Jhc27 => by
          try simp only [bX] at hc27
          refine Om (Qh υ135 O ς3 O O O) O (Om (Qg ι3 O (b1_3.cell O)) O (Om (Ro O O) O (Om (Qr O O) O ?_)))
          exact (Qo O (Qo O (Qo O Jhc27)))) (fun hc27 Jhc27 => by
          refine Oy O (Oy O (Oy O (Om (Qm O O) O ?_)))
          exact (Qo O (Qo O (Qo O Jhc27)))) ?_
        refine Ww O O (Ka (Qp (Cb (Qw (Qx O O (Kx ?_))))))
        have cc_0_3 : Ch No w w3 := (Ch.then (E := No) (c1.and c2) c3)
        have CH_3 := cc_0_3
        refine ⟨?_, CH_3⟩
        try clear ka ht
        first | (simp_all [formM]; done) | (simp_all [formM]; omega)
       refine Qn (Ql (Qa (Kb (Ww O O (Ka ?_)))))
       refine Qp (Qx O O (Kx ?_))
       have cc_0_3 : Ch No w w3 := (Ch.then (E := No) (c1.and c2) c3)
       have CH_3 := cc_0_3
       refine ⟨?_, CH_3⟩
       try clear ka ht
       first | (simp_all [formM]; done) | (simp_all [formM]; omega)
      refine Qb (Om (Cg O O) O (Ww O O (Ka (Qj O (fun hc28 => ?_) (fun hc28 => ?_)))))
      ·
       refine Kb (Om (Qh υ135 O ς3 O O O) O (Om (Qg ι3 O (b1_3.cell O)) O (Om (Qh υ135 O ς3 O O O) O (Om (Qg ι3 O (b1_3.cell O)) O (Om (Ro O O) O (Ww O O ?_))))))
       refine Ka (Qp (Cb (Qw (Qx O O (Kx ?_)))))
       have cc_0_3 : Ch No w w3 := (Ch.then (E := No) (c1.and c2) c3)
       have CH_3 := cc_0_3
       refine ⟨?_, CH_3⟩
       try clear ka ht
       first | (simp_all [formM]; done) | (simp_all [formM]; omega)
      refine Kb (Om (Cg O O) O (Ww O O (Ka (Qj O (fun hc29 => ?_) (fun hc29 => ?_)))))
      ·
       refine Kb (Om (Qh υ135 O ς3 O O O) O (Om (Qg ι3 O (b1_3.cell O)) O (Om (Qh υ135 O ς3 O O O) O (Om (Qg ι3 O (b1_3.cell O)) O ?_))))
       refine Om (Cy O O) O ?_
       refine Om (Rg O O) O ?_
       refine Om (Ry O O) O (Wu O O ?_)
       refine Re (b := _) 4 94 98 O (fun hc30 Jhc30 => by
         try simp only [bX] at hc30
         refine Om (Qh υ135 O ς3 O O O) O (Om (Qg ι3 O (b1_3.cell O)) O (Om (Ro O O) O (Om (Qr O O) O ?_)))
         exact (Qo O (Qo O (Qo O Jhc30)))) (fun hc30 Jhc30 => by
         refine Oy O (Oy O (Oy O (Om (Qm O O) O ?_)))
         exact (Qo O (Qo O (Qo O Jhc30)))) ?_
       refine Ww O O (Ka (Qp (Cb (Qw (Qx O O (Kx ?_))))))
       have cc_0_3 : Ch No w w3 := (Ch.then (E := No) (c1.and c2) c3)
       have CH_3 := cc_0_3
       refine ⟨?_, CH_3⟩
       try clear ka ht
       first | (simp_all [formM]; done) | (simp_all [formM]; omega)
      refine Qn (Ql (Qa (Kb (Ww O O (Ka ?_)))))
      refine Qp (Qx O O (Kx ?_))
      have cc_0_3 : Ch No w w3 := (Ch.then (E := No) (c1.and c2) c3)
      have CH_3 := cc_0_3
      refine ⟨?_, CH_3⟩
      try clear ka ht
      first | (simp_all [formM]; done) | (simp_all [formM]; omega)
     refine Oy O (Oy O (Oy O (Oy O (Oy O (Oy O (Oy O (Oy O ?_)))))))
     refine Om (Qm O O) O (Ww O O (Wz (Kb (Wu O O ?_))))
     refine Om (Rm O) O (Ka (Rd O (Kb (Ww O O (Qf ?_)))))
     refine Qa (Qp (Qw (Qx O O (Kx ?_))))
     have cc_0_3 : Ch No w w3 := (Ch.then (E := No) (c1.and c2) c3)
     have CH_3 := cc_0_3
     refine ⟨?_, CH_3⟩
     try clear ka ht
     first | (simp_all [formM]; done) | (simp_all [formM]; omega)
    refine Oy O (Oy O (Oy O (Oy O (Oy O (Oy O (Oy O (Oy O ?_)))))))
    refine Oy O (Om (Qm O O) O (Wu O O (Oy O (Oy O (Oy O (Oy O (Oy O ?_)))))))
    refine Oy O (Oy O (Oy O (Om (Qm O O) O (Ww O O (Wz ?_)))))
    refine Kb (Wu O O (Om (Rm O) O (Ka (Rd O (Qe ?_)))))
    refine Qb (Ww O O (Ka (Qp (Qw (Qx O O (Kx ?_))))))
    have cc_0_3 : Ch No w w3 := (Ch.then (E := No) (c1.and c2) c3)
    have CH_3 := cc_0_3
    refine ⟨?_, CH_3⟩
    try clear ka ht
    first | (simp_all [formM]; done) | (simp_all [formM]; omega)
   refine Oy O (Oy O (Oy O (Oy O (Oy O (Om (Qm O O) O (Wu O O (Oy O ?_)))))))
   refine Oy O (Oy O (Oy O (Oy O (Oy O (Oy O (Oy O (Oy O ?_)))))))
   refine Om (Qm O O) O (Wu O O (Oy O (Oy O (Oy O (Oy O (Oy O (Oy O ?_)))))))
   refine Oy O (Oy O (Om (Qm O O) O (Ww O O (Wz (Qe ?_)))))
   refine Qb (Wu O O (Om (Rm O) O (Ka (Rd O (Kb ?_)))))
   refine Ww O O (Ka (Qp (Qw (Qx O O (Kx ?_)))))
   have cc_0_3 : Ch No w w3 := (Ch.then (E := No) (c1.and c2) c3)
   have CH_3 := cc_0_3
   refine ⟨?_, CH_3⟩
   try clear ka ht
   first | (simp_all [formM]; done) | (simp_all [formM]; omega)
  refine Oy O (Oy O (Oy O (Oy O (Oy O (Om (Qm O O) O (Wu O O (Oy O ?_)))))))
  refine Oy O (Oy O (Oy O (Oy O (Om (Qm O O) O (Wu O O (Oy O (Oy O ?_)))))))
  refine Oy O (Oy O (Oy O (Oy O (Oy O (Oy O (Oy O (Om (Qm O O) O ?_)))))))
  refine Wu O O (Oy O (Oy O (Oy O (Oy O (Oy O (Oy O (Oy O ?_)))))))
  refine Oy O (Om (Qm O O) O (Ww O O (Wz (Kb ?_))))
  refine Wu O O (Om (Rm O) O (Ka (Rd O (Kb (Ww O O ?_)))))
  refine Ka (Qp (Qw (Qx O O (Kx ?_))))
  have cc_0_3 : Ch No w w3 := (Ch.then (E := No) (c1.and c2) c3)
  have CH_3 := cc_0_3
  refine ⟨?_, CH_3⟩
  try clear ka ht
  first | (simp_all [formM]; done) | (simp_all [formM]; omega)
 refine Oy O (Oy O (Oy O (Om (Qm O O) O (Wu O O (Oy O (Oy O (Oy O ?_)))))))
 refine Oy O (Oy O (Om (Qm O O) O (Wu O O (Oy O (Oy O (Oy O (Oy O ?_)))))))
 refine Oy O (Om (Qm O O) O (Wu O O (Oy O (Oy O (Oy O (Oy O (Oy O ?_)))))))
 refine Oy O (Oy O (Oy O (Oy O (Om (Qm O O) O (Wu O O (Oy O (Oy O ?_)))))))
 refine Oy O (Oy O (Oy O (Oy O (Oy O (Oy O (Om (Qm O O) O (Ww O O ?_)))))))
 refine Wz (Kb (Wu O O (Om (Rm O) O (Qf ?_))))
 refine Qa (Rd O (Kb (Ww O O (Ka (Qp ?_)))))
 refine Qw (Qx O O (Kx ?_))
 have cc_0_3 : Ch No w w3 := (Ch.then (E := No) (c1.and c2) c3)
 have CH_3 := cc_0_3
 refine ⟨?_, CH_3⟩
 try clear ka ht
 first | (simp_all [formM]; done) | (simp_all [formM]; omega)
theorem steps_Acts (s : Stp) (w : World) (st : StT w) (hn : -1000000000 ≤ s.n ∧ s.n ≤ 1000000000) :
  Calls prog 259 #[.agg #[Kg s.op, Kg s.dst, Kg s.src, Kg s.jump, Kg s.count, Kg s.n, Kg s.k]] w (Ret (fun v w' => v = Kg (actsM s) ∧ Ch No w w')) := by
 refine Ku func259 O ntmps259 O (Kb (Km (Cp O) O ?_))
 intro p1 w1 b1 c1 e1 z1
 refine Ww O O (Wz (Kb (Om (Qz ι135 ς135 O O (b1.all' O)) O ?_)))
 have st_1 := st.keep c1
 refine Oq (Qi call202 O (steps_form s _ st_1 hn)) O ?_
 rintro _ w2 ⟨rfl, c2⟩
 have z2 := c2.size
 refine Om (Rm O) O (Ka (Cq O (fun hc1 => ?_) (fun hc1 => ?_)))
 ·
  try simp only [bX] at hc1
  refine Kb (Ww O O (Ka (Qp (Qw (Qx O O ?_)))))
  refine Kx ?_
  have CH_2 := (c1.trans c2)
  exact ⟨by rw [actsM, if_neg (by simpa using hc1)], CH_2⟩
 try simp only [bX] at hc1
 refine Qn (Qa (Kb (Om (Qh υ135 O ς3 O O O) O ?_)))
 have b1_2 := b1.keep c2
 refine Om (Qg ι3 O (b1_2.cell O)) O (Ww O O (Ka (Qp (Qx O O (Kx ?_)))))
 have CH_2 := (c1.trans c2)
 exact ⟨by rw [actsM, if_pos (by simpa using hc1)]; rfl, CH_2⟩
end Go.Tm
