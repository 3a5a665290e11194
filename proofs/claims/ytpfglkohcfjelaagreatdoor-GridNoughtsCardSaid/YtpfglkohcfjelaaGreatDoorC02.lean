/- Lemmas of this claim, joined by program. Walks of functions: an order's length and text. The planner's numbers, in plain Lean. Walks of functions: the planner's numbers. Rounds of a range over a function: the same rules inside a round; the range itself; what an iterator owes. Divisors, as the program finds them. Walks of functions: divisors. The planner's choice, in plain Lean. Maps: what is known of one, look-ups, updates. Walks of functions: what a chooser knows; factors; sizes. Walks of functions: hard lengths, sizes, the offer. Conditions: each lemma names its own. -/
import Derived.Test.YtpfglkohcfjelaaGreatDoorC01
import Derived.RangeFuncNested
import Derived.RangeFuncWrites
import Derived.OrdersIn
set_option linter.all false
namespace Go.Tm
set_option maxRecDepth 100000
open Go.RowKit Go.Proofs
theorem walker_length (m : Nat) : ∀ (o : Ord) (A : Option Addr) (c : Nat) (lo hi q : Nat) (p d : Int) (w : World) (_ : SizeOf.sizeOf o < m) (_ : RdK (In lo hi) w A o.kids) (_ : hi ≤ w.heap.size) (_ : q < lo ∨ hi ≤ q) (_ : Bk w q #[.int .i64 p] 246) (_ : 0 ≤ p ∧ p ≤ 4096) (_ : 1 ≤ d ∧ d ≤ 17), Calls Tryz.prog 220 #[.pointer (some ⟨q, 0, none⟩), ordV o A c, .int .i64 d] w (Ret (fun v w' => v = .int .i64 (wl o p d).2 ∧ Bk w' q #[.int .i64 (wl o p d).1] 246 ∧ Ch (Is q) w w')) := by
 induction m with
 | zero => intros; omega
 | succ m ih =>
 intro o A c lo hi q p d w hs kd hh hq bq hp hd
 refine calls_of_VC (args := [.pointer (some ⟨q, 0, none⟩), ordV o A c, .int .i64 d]) Tryz.func220 rfl Tryz.ntmps220 rfl ?_
 have lq := bq.lt; have hk0 := kids_lt o
 refine Qe (Qb (Oq (Cj rfl) rfl ?_))
 rintro _ w1 ⟨p1, rfl, N1⟩
 have c1 := N1.ch
 have e1 := N1.p; have z1 := N1.size
 have b4 := Bk.new N1
 refine Om (Qd rfl) rfl (Qf (Qa (Qe (Qb (Om (Qc rfl) rfl (Om (Ql rfl) rfl (Om (Qg υ246 rfl ς3 rfl rfl rfl) rfl ?_)))))))
 have bq_1 := bq.keep c1
 refine Om (Qh ι3 rfl (bq_1.cell rfl)) rfl ?_
 refine Om (Ce rfl rfl (by rw [IntKind.wrap_i64]; omega)) rfl ?_
 refine Om (Ql rfl) rfl (Om (Qg υ246 rfl ς3 rfl rfl rfl) rfl (Oz (Rh ς3 rfl rfl rfl rfl bq_1 rfl) rfl ?_))
 intro _ w2 Z2
 have c2 := Z2.ch; have z2 := Z2.size
 have bq_2 := Bk.put Z2
 refine Qf (Qa (Qe (Qe (Qb (Om (Qc rfl) rfl (Om (Ql rfl) rfl (Om (Qg υ246 rfl ς3 rfl rfl rfl) rfl ?_)))))))
 refine Om (Qh ι3 rfl (bq_2.cell rfl)) rfl (Om (Rb rfl rfl) rfl (Om (Qc rfl) rfl ?_))
 refine Rd (b := _) 3 21 24 rfl (fun hc1 Jhc1 => by
   refine Oy rfl (Oy rfl (Om (Qt rfl rfl) rfl ?_))
   exact (Qs rfl (Qs rfl Jhc1))) (fun hc1 Jhc1 => by
   try simp only [bX] at hc1
   refine Om (Qc rfl) rfl (Om (Rb rfl rfl) rfl (Om (Qm rfl rfl) rfl ?_))
   exact (Qs rfl (Qs rfl Jhc1))) ?_
 refine Qf (Qa (Cu rfl (fun hc2 => ?_) (fun hc2 => ?_)))
 ·
  try simp only [bX] at hc2
  have hx : p + 1 > 4096 ∨ d > 16 := by omega
  refine Qe (Qb (Om (Qd rfl) rfl (Qf (Qa (Qp (Qu (Qy rfl rfl ?_)))))))
  refine Ret.mk ?_
  rw [wl_full hx]
  have CH_1 := (Ch.refl (Is q) w).and c1
  have CH_2 : Ch (Is q) w w2 := CH_1.then c2
  exact ⟨rfl, bq_2, CH_2⟩
 ·
  try simp only [bX] at hc2
  have hx : ¬ (p + 1 > 4096 ∨ d > 16) := by omega
  refine Qn (Qa (Qe (Qw (Qe (Qb (Om (Qg υ53 rfl ς3 rfl rfl rfl) rfl ?_))))))
  have b4_2 := b4.to c2
  refine Om (Qh ι3 rfl (b4_2.cell rfl)) rfl (Om (Cm rfl rfl) rfl (Om (Qc rfl) rfl ?_))
  refine Rc (b := _) 5 29 34 rfl (fun hc3 Jhc3 => by
    try simp only [bX] at hc3
    refine Om (Qg υ53 rfl ς51 rfl rfl rfl) rfl (Om (Qh ι51 rfl (b4_2.cell rfl)) rfl (Om (Ra υ51 rfl) rfl (Om (Cm rfl rfl) rfl (Om (Qt rfl rfl) rfl ?_))))
    exact (Qs rfl (Qs rfl (Qs rfl (Qs rfl Jhc3))))) (fun hc3 Jhc3 => by
    refine Oy rfl (Oy rfl (Oy rfl (Oy rfl (Om (Qm rfl rfl) rfl ?_))))
    exact (Qs rfl (Qs rfl (Qs rfl (Qs rfl Jhc3))))) ?_
  refine Om (Qc rfl) rfl ?_
  refine Rc (b := _) 4 35 39 rfl (fun hc4 Jhc4 => by
    try simp only [bX] at hc4
    refine Om (Qg υ53 rfl ς3 rfl rfl rfl) rfl (Om (Qh ι3 rfl (b4_2.cell rfl)) rfl (Om (Wb rfl rfl) rfl (Om (Qt rfl rfl) rfl ?_)))
    exact (Qs rfl (Qs rfl (Qs rfl Jhc4)))) (fun hc4 Jhc4 => by
    refine Oy rfl (Oy rfl (Oy rfl (Om (Qm rfl rfl) rfl ?_)))
    exact (Qs rfl (Qs rfl (Qs rfl Jhc4)))) ?_
  refine Om (Qc rfl) rfl ?_
  refine Rc (b := _) 4 40 44 rfl (fun hc5 Jhc5 => by
    try simp only [bX] at hc5
    refine Om (Qg υ53 rfl ς3 rfl rfl rfl) rfl (Om (Qh ι3 rfl (b4_2.cell rfl)) rfl (Om (Rv rfl rfl) rfl (Om (Qt rfl rfl) rfl ?_)))
    exact (Qs rfl (Qs rfl (Qs rfl Jhc5)))) (fun hc5 Jhc5 => by
    refine Oy rfl (Oy rfl (Oy rfl (Om (Qm rfl rfl) rfl ?_)))
    exact (Qs rfl (Qs rfl (Qs rfl Jhc5)))) ?_
  refine Om (Qd rfl) rfl (Qf (Qa (Cu rfl (fun hc6 => ?_) (fun hc6 => ?_))))
  ·
   try simp only [bX] at hc6
   refine Qe (Qb (Om (Qg υ53 rfl ς3 rfl rfl rfl) rfl (Om (Qh ι3 rfl (b4_2.cell rfl)) rfl (Om (Qd rfl) rfl (Qf (Qa (Qp ?_)))))))
   refine Cd (Qu (Qy rfl rfl (Ret.mk ?_)))
   rw [wl_leaf hx (kids0 hc6.1.1.2), if_pos (by omega)]
   have CH_1 := (Ch.refl (Is q) w).and c1
   have CH_2 : Ch (Is q) w w2 := CH_1.then c2
   exact ⟨rfl, bq_2, CH_2⟩
  ·
   try simp only [bX] at hc6
   refine Qe (Qb (Om (Qg υ53 rfl ς3 rfl rfl rfl) rfl (Om (Qh ι3 rfl (b4_2.cell rfl)) rfl (Om (Cm rfl rfl) rfl (Om (Qc rfl) rfl ?_)))))
   refine Rc (b := _) 5 51 56 rfl (fun hc7 Jhc7 => by
     try simp only [bX] at hc7
     refine Om (Qg υ53 rfl ς51 rfl rfl rfl) rfl (Om (Qh ι51 rfl (b4_2.cell rfl)) rfl (Om (Ra υ51 rfl) rfl (Om (Cm rfl rfl) rfl (Om (Qt rfl rfl) rfl ?_))))
     exact (Qs rfl (Qs rfl (Qs rfl (Qs rfl Jhc7))))) (fun hc7 Jhc7 => by
     refine Oy rfl (Oy rfl (Oy rfl (Oy rfl (Om (Qm rfl rfl) rfl ?_))))
     exact (Qs rfl (Qs rfl (Qs rfl (Qs rfl Jhc7))))) ?_
   refine Om (Qc rfl) rfl ?_
   refine Rc (b := _) 4 57 61 rfl (fun hc8 Jhc8 => by
     try simp only [bX] at hc8
     refine Om (Qg υ53 rfl ς3 rfl rfl rfl) rfl (Om (Qh ι3 rfl (b4_2.cell rfl)) rfl (Om (Wb rfl rfl) rfl (Om (Qt rfl rfl) rfl ?_)))
     exact (Qs rfl (Qs rfl (Qs rfl Jhc8)))) (fun hc8 Jhc8 => by
     refine Oy rfl (Oy rfl (Oy rfl (Om (Qm rfl rfl) rfl ?_)))
     exact (Qs rfl (Qs rfl (Qs rfl Jhc8)))) ?_
   refine Om (Qc rfl) rfl ?_
   refine Rc (b := _) 4 62 66 rfl (fun hc9 Jhc9 => by
     try simp only [bX] at hc9
     refine Om (Qg υ53 rfl ς3 rfl rfl rfl) rfl (Om (Qh ι3 rfl (b4_2.cell rfl)) rfl (Om (Rv rfl rfl) rfl (Om (Qt rfl rfl) rfl ?_)))
     exact (Qs rfl (Qs rfl (Qs rfl Jhc9)))) (fun hc9 Jhc9 => by
     refine Oy rfl (Oy rfl (Oy rfl (Om (Qm rfl rfl) rfl ?_)))
     exact (Qs rfl (Qs rfl (Qs rfl Jhc9)))) ?_
   refine Om (Qd rfl) rfl (Qf (Qa (Cu rfl (fun hc10 => ?_) (fun hc10 => ?_))))
   ·
    try simp only [bX] at hc10
    refine Qe (Qb (Om (Qg υ53 rfl ς3 rfl rfl rfl) rfl (Om (Qh ι3 rfl (b4_2.cell rfl)) rfl (Om (Qd rfl) rfl (Qf (Qa (Qp ?_)))))))
    refine Cd (Qu (Qy rfl rfl (Ret.mk ?_)))
    rw [wl_leaf hx (kids0 hc10.1.1.2), if_neg (by omega), if_pos (by omega)]
    have CH_1 := (Ch.refl (Is q) w).and c1
    have CH_2 : Ch (Is q) w w2 := CH_1.then c2
    exact ⟨rfl, bq_2, CH_2⟩
   ·
    try simp only [bX] at hc10
    refine Qe (Qb (Om (Qg υ53 rfl ς3 rfl rfl rfl) rfl (Om (Qh ι3 rfl (b4_2.cell rfl)) rfl (Om (Cm rfl rfl) rfl (Om (Qc rfl) rfl ?_)))))
    refine Rc (b := _) 5 73 78 rfl (fun hc11 Jhc11 => by
      try simp only [bX] at hc11
      refine Om (Qg υ53 rfl ς51 rfl rfl rfl) rfl (Om (Qh ι51 rfl (b4_2.cell rfl)) rfl (Om (Ra υ51 rfl) rfl (Om (Cm rfl rfl) rfl (Om (Qt rfl rfl) rfl ?_))))
      exact (Qs rfl (Qs rfl (Qs rfl (Qs rfl Jhc11))))) (fun hc11 Jhc11 => by
      refine Oy rfl (Oy rfl (Oy rfl (Oy rfl (Om (Qm rfl rfl) rfl ?_))))
      exact (Qs rfl (Qs rfl (Qs rfl (Qs rfl Jhc11))))) ?_
    refine Om (Qc rfl) rfl ?_
    refine Rc (b := _) 4 79 83 rfl (fun hc12 Jhc12 => by
      try simp only [bX] at hc12
      refine Om (Qg υ53 rfl ς3 rfl rfl rfl) rfl (Om (Qh ι3 rfl (b4_2.cell rfl)) rfl (Om (Cm rfl rfl) rfl (Om (Qt rfl rfl) rfl ?_)))
      exact (Qs rfl (Qs rfl (Qs rfl Jhc12)))) (fun hc12 Jhc12 => by
      refine Oy rfl (Oy rfl (Oy rfl (Om (Qm rfl rfl) rfl ?_)))
      exact (Qs rfl (Qs rfl (Qs rfl Jhc12)))) ?_
    refine Om (Qd rfl) rfl (Qf (Qa (Cu rfl (fun hc13 => ?_) (fun hc13 => ?_))))
    ·
     try simp only [bX] at hc13
     refine Qe ?_
     obtain ⟨a, b, ha, hb, e⟩ := kids2 hc13.1.2
     have la := kid_lt ha; have lb := kid_lt hb
     have ia := wl_bd _ a (p + 1) (d + 1) (Nat.lt_succ_self _) (by omega) (by omega)
     have kd_1 := kd.keep c1
     have kd_2 := kd_1.to c2
     obtain ⟨kA, kc, ka, kr⟩ := kd_2.kid ha
     refine Qb (Om (Qc rfl) rfl (Om (Qg υ53 rfl ς51 rfl rfl rfl) rfl (Om (Qh ι51 rfl (b4_2.cell rfl)) rfl (Om (Cb υ51 ς53 rfl rfl (kd_2.ne (by omega)) (by omega) (by omega)) rfl (Om (Qr ι53 ς53 rfl rfl ka.1) rfl (Om (Qc rfl) rfl ?_))))))
     refine Om (Ce rfl rfl (by rw [IntKind.wrap_i64]; omega)) rfl ?_
     refine Oq (Qi Tryz.call220 rfl (ih a _ _ _ _ _ (p + 1) (d + 1) _ (by omega) kr (by omega) (by omega) bq_2 (by omega) (by omega))) rfl ?_
     rintro _ w3 ⟨rfl, bq_3, c3⟩
     have z3 := c3.size
     refine Om (Qd rfl) rfl (Qf (Qa (Qe (Qe (Qb (Om (Qc rfl) rfl (Om (Cs rfl rfl) rfl ?_)))))))
     refine Qf (Qa (Qj rfl (fun hc14 => ?_) (fun hc14 => ?_)))
     ·
      refine Qe (Qb (Om (Qd rfl) rfl (Qf (Qa (Qp (Qu (Cd ?_)))))))
      refine Qu (Qy rfl rfl (Ret.mk ?_))
      rw [wl_two hx e, if_pos (by omega), if_pos hc14]
      have CH_1 := (Ch.refl (Is q) w).and c1
      have CH_2 : Ch (Is q) w w2 := CH_1.then c2
      have CH_3 : Ch (Is q) w w3 := CH_2.then c3
      exact ⟨rfl, bq_3, CH_3⟩
     ·
      refine Qn (Qa (Qe ?_))
      have ib := wl_bd _ b (wl a (p + 1) (d + 1)).1 (d + 1) (Nat.lt_succ_self _) (by omega) (by omega)
      have kd_3 := kd_2.to c3
      obtain ⟨kB, kc2, kb, ks⟩ := kd_3.kid hb
      have mb := mul_bd ia.2.2.2.1 ia.2.2.2.2 ib.2.2.2.1 ib.2.2.2.2
      refine Qb (Om (Qc rfl) rfl (Om (Qg υ53 rfl ς51 rfl rfl rfl) rfl ?_))
      have b4_3 := b4_2.to c3
      refine Om (Qh ι51 rfl (b4_3.cell rfl)) rfl (Om (Cb υ51 ς53 rfl rfl (kd_3.ne (by omega)) (by omega) (by omega)) rfl (Om (Qr ι53 ς53 rfl rfl kb.1) rfl (Om (Qc rfl) rfl ?_)))
      refine Om (Ce rfl rfl (by rw [IntKind.wrap_i64]; omega)) rfl ?_
      refine Oq (Qi Tryz.call220 rfl (ih b _ _ _ _ _ (wl a (p + 1) (d + 1)).1 (d + 1) _ (by omega) ks (by omega) (by omega) bq_3 (by omega) (by omega))) rfl ?_
      rintro _ w4 ⟨rfl, bq_4, c4⟩
      have z4 := c4.size
      refine Om (Qd rfl) rfl (Qf (Qa (Qe (Qe (Qb (Om (Qc rfl) rfl (Om (Cs rfl rfl) rfl ?_)))))))
      refine Om (Qc rfl) rfl ?_
      refine Rd (b := _) 5 104 109 rfl (fun hc15 Jhc15 => by
        refine Oy rfl (Oy rfl (Oy rfl (Oy rfl (Om (Qt rfl rfl) rfl ?_))))
        exact (Qs rfl (Qs rfl (Qs rfl (Qs rfl Jhc15))))) (fun hc15 Jhc15 => by
        try simp only [bX] at hc15
        refine Om (Qc rfl) rfl (Om (Qc rfl) rfl ?_)
        refine Om (Cv rfl rfl (by rw [IntKind.wrap_i64]; omega)) rfl ?_
        refine Om (Rb rfl rfl) rfl (Om (Qm rfl rfl) rfl ?_)
        exact (Qs rfl (Qs rfl (Qs rfl (Qs rfl Jhc15))))) ?_
      refine Qf (Qa (Cu rfl (fun hc16 => ?_) (fun hc16 => ?_)))
      ·
       try simp only [bX] at hc16
       have hy : (wl b (wl a (p + 1) (d + 1)).1 (d + 1)).2 < 2 ∨ (wl a (p + 1) (d + 1)).2 * (wl b (wl a (p + 1) (d + 1)).1 (d + 1)).2 > 16384 := by omega
       refine Qe (Qb (Om (Qd rfl) rfl (Qf (Qa (Qp (Qu (Cd ?_)))))))
       refine Qu (Qy rfl rfl (Ret.mk ?_))
       rw [wl_two hx e, if_pos (by omega), if_neg hc14, if_pos hy]
       have CH_1 := (Ch.refl (Is q) w).and c1
       have CH_2 : Ch (Is q) w w2 := CH_1.then c2
       have CH_3 : Ch (Is q) w w3 := CH_2.then c3
       have CH_4 : Ch (Is q) w w4 := CH_3.then c4
       exact ⟨rfl, bq_4, CH_4⟩
      ·
       try simp only [bX] at hc16
       have hy : ¬ ((wl b (wl a (p + 1) (d + 1)).1 (d + 1)).2 < 2 ∨ (wl a (p + 1) (d + 1)).2 * (wl b (wl a (p + 1) (d + 1)).1 (d + 1)).2 > 16384) := by omega
       refine Qn (Qa (Qe (Qb (Om (Qc rfl) rfl (Om (Qc rfl) rfl ?_)))))
       refine Om (Cv rfl rfl (by rw [IntKind.wrap_i64]; omega)) rfl ?_
       refine Om (Qd rfl) rfl (Qf (Qa (Qp (Cd (Qu (Qy rfl rfl (Ret.mk ?_)))))))
       rw [wl_two hx e, if_pos (by omega), if_neg hc14, if_neg hy]
       have CH_1 := (Ch.refl (Is q) w).and c1
       have CH_2 : Ch (Is q) w w2 := CH_1.then c2
       have CH_3 : Ch (Is q) w w3 := CH_2.then c3
       have CH_4 : Ch (Is q) w w4 := CH_3.then c4
       exact ⟨rfl, bq_4, CH_4⟩
    ·
     try simp only [bX] at hc13
     refine Qe (Qb (Om (Qg υ53 rfl ς3 rfl rfl rfl) rfl (Om (Qh ι3 rfl (b4_2.cell rfl)) rfl (Om (Cm rfl rfl) rfl (Om (Qc rfl) rfl ?_)))))
     refine Rc (b := _) 5 117 122 rfl (fun hc17 Jhc17 => by
       try simp only [bX] at hc17
       refine Om (Qg υ53 rfl ς51 rfl rfl rfl) rfl (Om (Qh ι51 rfl (b4_2.cell rfl)) rfl (Om (Ra υ51 rfl) rfl (Om (Cm rfl rfl) rfl (Om (Qt rfl rfl) rfl ?_))))
       exact (Qs rfl (Qs rfl (Qs rfl (Qs rfl Jhc17))))) (fun hc17 Jhc17 => by
       refine Oy rfl (Oy rfl (Oy rfl (Oy rfl (Om (Qm rfl rfl) rfl ?_))))
       exact (Qs rfl (Qs rfl (Qs rfl (Qs rfl Jhc17))))) ?_
     refine Om (Qc rfl) rfl ?_
     refine Rc (b := _) 4 123 127 rfl (fun hc18 Jhc18 => by
       try simp only [bX] at hc18
       refine Om (Qg υ53 rfl ς3 rfl rfl rfl) rfl (Om (Qh ι3 rfl (b4_2.cell rfl)) rfl (Om (Wb rfl rfl) rfl (Om (Qt rfl rfl) rfl ?_)))
       exact (Qs rfl (Qs rfl (Qs rfl Jhc18)))) (fun hc18 Jhc18 => by
       refine Oy rfl (Oy rfl (Oy rfl (Om (Qm rfl rfl) rfl ?_)))
       exact (Qs rfl (Qs rfl (Qs rfl Jhc18)))) ?_
     refine Om (Qc rfl) rfl ?_
     refine Rc (b := _) 4 128 132 rfl (fun hc19 Jhc19 => by
       try simp only [bX] at hc19
       refine Om (Qg υ53 rfl ς3 rfl rfl rfl) rfl (Om (Qh ι3 rfl (b4_2.cell rfl)) rfl (Om (Rv rfl rfl) rfl (Om (Qt rfl rfl) rfl ?_)))
       exact (Qs rfl (Qs rfl (Qs rfl Jhc19)))) (fun hc19 Jhc19 => by
       refine Oy rfl (Oy rfl (Oy rfl (Om (Qm rfl rfl) rfl ?_)))
       exact (Qs rfl (Qs rfl (Qs rfl Jhc19)))) ?_
     refine Om (Qd rfl) rfl (Qf (Qa (Cu rfl (fun hc20 => ?_) (fun hc20 => ?_))))
     ·
      try simp only [bX] at hc20
      refine Qe (Qe ?_)
      obtain ⟨a, ha, e⟩ := kids1 hc20.1.1.2
      have la := kid_lt ha
      have ia := wl_bd _ a (p + 1) (d + 1) (Nat.lt_succ_self _) (by omega) (by omega)
      have kd_1 := kd.keep c1
      have kd_2 := kd_1.to c2
      obtain ⟨kA, kc, ka, kr⟩ := kd_2.kid ha
      refine Ci 13 [(0, true), (1, true), (2, true), (3, true), (4, true), (5, true), (6, true), (8, true), (9, true), (10, true), (11, true), (7, false), (12, true)] (fun w1 w' => Ch (Is q) w1 w') mixed (by kernel_rfl) (fun _ _ => Ch.refl _ _) ?_
      intro w5 D5
      have c5 := Ch.of_drew D5; have z5 := c5.size
      have bq_5 := bq_2.keep c5
      have b4_5 := b4_2.keep c5
      have ka_5 := ka.keep c5
      refine Hm (fun w' hS => Qc rfl) rfl (Hm (fun w' hS => Qg υ53 rfl ς51 rfl rfl rfl) rfl (Hm (fun w' hS => Qh ι51 rfl ((b4_5.to hS).cell rfl)) rfl ?_))
      have kd_5 := kd_2.keep c5
      refine Hm (fun w' hS => Cb υ51 ς53 rfl rfl (kd_5.ne (by omega)) (by omega) (by omega)) rfl ?_
      refine Hm (fun w' hS => Qr ι53 ς53 rfl rfl (ka_5.to hS).1) rfl ?_
      refine Hm (fun w' hS => Qc rfl) rfl ?_
      refine Hm (fun w' hS => Ce rfl rfl (by rw [IntKind.wrap_i64]; omega)) rfl ?_
      refine Hm (fun w' hS => Qg υ53 rfl ς3 rfl rfl rfl) rfl (Hm (fun w' hS => Qh ι3 rfl ((b4_5.to hS).cell rfl)) rfl ?_)
      refine Hm (fun w' hS => Cv rfl rfl (by rw [IntKind.wrap_i64]; omega)) rfl ?_
      refine Hm (fun w' hS => Rf rfl rfl (by rw [IntKind.wrap_i64]; omega)) rfl ?_
      have kr_5 := kr.keep c5
      refine Hq (Qi Tryz.call220 rfl (ih a _ _ _ _ _ (p + 1) (d + 1) _ (by omega) kr_5 (by omega) (by omega) bq_5 (by omega) (by omega))) rfl ?_
      rintro _ w6 ⟨rfl, bq_6, c6⟩
      have z6 := c6.size
      have RD_6 : Ch (Is q) w5 w6 := (Ch.refl (Is q) w5).then c6
      refine ⟨RD_6, ?_⟩
      refine Hm (fun w' hS => Cs rfl rfl) rfl (Cn (Qf (Qx (Qa (Qj rfl (fun hc21 => ?_) (fun hc21 => ?_))))))
      ·
       refine Qe (Qb (Om (Qd rfl) rfl (Qf (Qa (Qp (Qu (Cd ?_)))))))
       refine Qu (Qy rfl rfl (Ret.mk ?_))
       rw [wl_one hx e, if_pos (by omega), if_pos hc21]
       have CH_1 := (Ch.refl (Is q) w).and c1
       have CH_2 : Ch (Is q) w w2 := CH_1.then c2
       have CH_5 := CH_2.and c5
       have CH_6 : Ch (Is q) w w6 := CH_5.then c6
       exact ⟨rfl, bq_6, CH_6⟩
      ·
       refine Qn (Qa (Qe (Qb (Om (Qg υ53 rfl ς3 rfl rfl rfl) rfl ?_))))
       have b4_6 := b4_5.to c6
       refine Om (Qh ι3 rfl (b4_6.cell rfl)) rfl (Om (Qd rfl) rfl (Qf (Qa (Qp (Cd (Qu (Qy rfl rfl ?_)))))))
       refine Ret.mk ?_
       rw [wl_one hx e, if_pos (by omega), if_neg hc21]
       have CH_1 := (Ch.refl (Is q) w).and c1
       have CH_2 : Ch (Is q) w w2 := CH_1.then c2
       have CH_5 := CH_2.and c5
       have CH_6 : Ch (Is q) w w6 := CH_5.then c6
       exact ⟨rfl, bq_6, CH_6⟩
     ·
      try simp only [bX] at hc20
      refine Qn (Qo (Qa (Qe (Qb (Om (Qd rfl) rfl (Qf (Qa ?_)))))))
      refine Qp (Qy rfl rfl (Ret.mk ?_))
      rw [wl_none hx (by omega) (by omega) (by omega) (by omega)]
      have CH_1 := (Ch.refl (Is q) w).and c1
      have CH_2 : Ch (Is q) w w2 := CH_1.then c2
      exact ⟨rfl, bq_2, CH_2⟩
theorem order_Length (o : Ord) (A : Option Addr) (c : Nat) (lo hi : Nat) (w : World) (kd : RdK (In lo hi) w A o.kids) (hh : hi ≤ w.heap.size) :
  Calls Tryz.prog 170 #[ordV o A c] w (Ret (fun v w' => v = .int .i64 o.len ∧ Ch No w w')) := by
 refine calls_of_VC (args := [ordV o A c]) Tryz.func170 rfl Tryz.ntmps170 rfl (Qe (Qb (Oq (Cj rfl) rfl ?_)))
 rintro _ w1 ⟨p1, rfl, N1⟩
 have c1 := N1.ch
 have e1 := N1.p; have z1 := N1.size
 have b1 := Bk.new N1
 refine Om (Qd rfl) rfl (Qf (Qa (Qe (Qb (Oq (Cc Tryz.zeroValue246) rfl ?_)))))
 rintro _ w2 ⟨p2, rfl, N2⟩
 have c2 := N2.ch
 have e2 := N2.p; have z2 := N2.size
 have b3 := Bk.new N2
 have b1_2 := b1.keep c2
 refine Om (Qr ι53 ς53 rfl rfl (b1_2.all' rfl)) rfl ?_
 have kd_2 := kd.keep (c1.trans c2)
 refine Oq (Qi Tryz.call220 rfl (walker_length _ o _ _ _ _ _ 0 1 _ (Nat.lt_succ_self _) kd_2 (by omega) (by omega) b3 (by omega) (by omega))) rfl ?_
 rintro _ w3 ⟨rfl, bz, c3⟩
 have z3 := c3.size
 refine Om (Qd rfl) rfl (Qf (Qa (Qp (Qy rfl rfl (Ret.mk ?_)))))
 have CH_2 := (Ch.refl (No) w).and (c1.trans c2)
 have CH_3 : Ch (No) w w3 := CH_2.then c3
 exact ⟨rfl, CH_3⟩
end Go.Tm
namespace Go.Tm
def fwork (r : Int) : Int × Int := if r = 2 then (4, 0) else if r = 3 then (12, 4) else if r = 4 then (16, 0) else if r = 5 then (32, 16) else (0, 0)
def fw (r : Int) : Int := (fwork r).1 + (fwork r).2
theorem fwork_bd (r : Int) : 0 ≤ (fwork r).1 ∧ (fwork r).1 ≤ 32 ∧ 0 ≤ (fwork r).2 ∧ (fwork r).2 ≤ 16 := by
  unfold fwork; split <;> (try split) <;> (try split) <;> (try split) <;> simp
def plusGo (s : Int) : List Int → Int
  | [] => s
  | x :: t => if x > 4611686018427387904 - s then 4611686018427387905 else plusGo (s + x) t
theorem plusGo_bd : ∀ (l : List Int) (s : Int), s ≤ 4611686018427387904 → (∀ x ∈ l, -65536 ≤ x) → s - 65536 * l.length ≤ plusGo s l ∧ plusGo s l ≤ 4611686018427387905
  | [], s, h1, _ => by simp only [plusGo, List.length_nil]; omega
  | x :: t, s, h1, h => by
    have hx := h x List.mem_cons_self
    simp only [plusGo, List.length_cons]
    split
    · omega
    · have := plusGo_bd t (s + x) (by omega) fun y hy => h y (List.mem_cons_of_mem _ hy)
      omega
theorem plusGo_pos : ∀ (l : List Int) (s : Int), 0 ≤ s → s ≤ 4611686018427387904 → (∀ x ∈ l, 0 ≤ x) → 0 ≤ plusGo s l
  | [], s, h0, h1, _ => by simp only [plusGo]; omega
  | x :: t, s, h0, h1, h => by
    have hx := h x List.mem_cons_self
    simp only [plusGo]
    split
    · omega
    · exact plusGo_pos t (s + x) (by omega) (by omega) fun y hy => h y (List.mem_cons_of_mem _ hy)
theorem plusGo_drop {xs : List Int} {i : Nat} {s x : Int} (h : xs[i]? = some x) : plusGo s (xs.drop i) = if x > 4611686018427387904 - s then 4611686018427387905 else plusGo (s + x) (xs.drop (i + 1)) := by
  rw [List.drop_eq_getElem_cons (List.getElem?_eq_some_iff.1 h).1, (List.getElem?_eq_some_iff.1 h).2, plusGo]
def timesS (a b : Int) : Int := if a > 0 ∧ b > 4611686018427387904 / a then 4611686018427387905 else a * b
theorem times_bd {a b : Int} (ha : 0 ≤ a) (ha' : a ≤ 65536) (hb : -1 ≤ b) (h : ¬ (a > 0 ∧ b > 4611686018427387904 / a)) : -65536 ≤ a * b ∧ a * b ≤ 4611686018427387904 := by
  constructor
  · have := Int.mul_le_mul_of_nonneg_left hb ha
    omega
  · by_cases h0 : a = 0
    · subst h0; simp
    · have h1 : b ≤ 4611686018427387904 / a := by omega
      have h2 := Int.mul_le_mul_of_nonneg_left h1 ha
      exact Int.le_trans h2 (Int.mul_ediv_self_le h0)
theorem timesS_bd {a b : Int} (ha : 0 ≤ a) (ha' : a ≤ 65536) (hb : -1 ≤ b) : -65536 ≤ timesS a b ∧ timesS a b ≤ 4611686018427387905 := by
  unfold timesS
  split
  · omega
  · rename_i h; have := times_bd ha ha' hb h; omega
theorem timesS_pos {a b : Int} (ha : 0 ≤ a) (hb : 0 ≤ b) : 0 ≤ timesS a b := by
  unfold timesS
  split
  · omega
  · exact Int.mul_nonneg ha hb
def timesC (a b ca cb : Int) (fly : Bool) : Int :=
  if fly then plusGo 0 [timesS a cb, timesS b ca, 6 * (a - 1) * (b - 1)] else plusGo 0 [plusGo 0 [timesS a cb, timesS b ca, 6 * (a - 1) * (b - 1)], a * b]
def blueC (n m cm : Int) : Int := plusGo 0 [timesS 3 cm, 12 * n, 10 * m]
def lcost (k n : Int) : Int := if k = 1 then 8 * n * n else fw n
theorem six_bd {a b : Int} (h1 : 1 ≤ a) (h2 : a ≤ 65536) (h3 : 1 ≤ b) (h4 : b ≤ 65536) : 0 ≤ 6 * (a - 1) * (b - 1) ∧ 6 * (a - 1) * (b - 1) ≤ 25769803776 ∧ 0 ≤ a * b ∧ a * b ≤ 4294967296 := by
  have e1 := Int.mul_nonneg (show (0:Int) ≤ 6 * (a - 1) by omega) (show (0:Int) ≤ b - 1 by omega)
  have e2 := Int.mul_le_mul (show 6 * (a - 1) ≤ 393216 by omega) (show b - 1 ≤ 65536 by omega) (by omega) (by omega)
  have e3 := Int.mul_nonneg (show (0:Int) ≤ a by omega) (show (0:Int) ≤ b by omega)
  have e4 := Int.mul_le_mul h2 h4 (by omega) (show (0:Int) ≤ 65536 by omega)
  omega
theorem sq_bd {n : Int} (h0 : 0 ≤ n) (h1 : n ≤ 65536) : 0 ≤ 8 * n * n ∧ 8 * n * n ≤ 34359738368 := by
  have e1 := Int.mul_nonneg (show (0:Int) ≤ 8 * n by omega) h0
  have e2 := Int.mul_le_mul (show 8 * n ≤ 524288 by omega) h1 h0 (by omega)
  omega
theorem timesC_bd {a b ca cb : Int} {f : Bool} (h1 : 1 ≤ a) (h2 : a ≤ 65536) (h3 : 1 ≤ b) (h4 : b ≤ 65536) (h5 : 0 ≤ ca) (h6 : 0 ≤ cb) : 0 ≤ timesC a b ca cb f ∧ timesC a b ca cb f ≤ 4611686018427387905 := by
  have s := six_bd h1 h2 h3 h4
  have t1 := timesS_pos (show 0 ≤ a by omega) h6
  have t2 := timesS_pos (show 0 ≤ b by omega) h5
  have p := plusGo_pos [timesS a cb, timesS b ca, 6 * (a - 1) * (b - 1)] 0 (by omega) (by omega) (by simp; omega)
  have p' := plusGo_bd [timesS a cb, timesS b ca, 6 * (a - 1) * (b - 1)] 0 (by omega) (by simp; omega)
  unfold timesC
  split
  · exact ⟨p, p'.2⟩
  · exact ⟨plusGo_pos _ 0 (by omega) (by omega) (by simp; omega), (plusGo_bd _ 0 (by omega) (by simp; omega)).2⟩
theorem blueC_bd {n m cm : Int} (h1 : 1 ≤ n) (h2 : n ≤ 65536) (h3 : 1 ≤ m) (h4 : m ≤ 65536) (h5 : -1 ≤ cm) : 0 ≤ blueC n m cm ∧ blueC n m cm ≤ 4611686018427387905 := by
  refine ⟨?_, (plusGo_bd _ 0 (by omega) (by have t1 := timesS_bd (show (0:Int) ≤ 3 by omega) (by omega) h5; simp; omega)).2⟩
  by_cases hc : 0 ≤ cm
  · have t1 := timesS_pos (show (0:Int) ≤ 3 by omega) hc
    exact plusGo_pos _ 0 (by omega) (by omega) (by simp; omega)
  · have : cm = -1 := by omega
    subst this
    have e : timesS 3 (-1) = -3 := by decide
    unfold blueC
    rw [e]
    simp only [plusGo]
    rw [if_neg (by omega), if_neg (by omega), if_neg (by omega)]
    omega
theorem lcost_bd {k n : Int} (h1 : 0 ≤ n) (h2 : n ≤ 65536) : 0 ≤ lcost k n ∧ lcost k n ≤ 34359738368 := by
  have := sq_bd h1 h2
  have := fwork_bd n
  unfold lcost fw
  split <;> omega
end Go.Tm
namespace Go.Tm
set_option maxRecDepth 100000
open Go.RowKit Go.Proofs
theorem inf3w4 : Inf Tryz.prog 3 (.int .i64 0) 1 8 := ⟨Tryz.t3, Tryz.type3, rfl, rfl, rfl⟩
theorem fly_Work (r : Int) (w : World) :
  Calls Tryz.prog 245 #[.int .i64 r] w (Ret (fun v w' => v = .tuple #[.int .i64 (fwork r).1, .int .i64 (fwork r).2] ∧ w = w')) := by
 refine calls_of_VC (args := [.int .i64 r]) Tryz.func245 rfl Tryz.ntmps245 rfl (Qe (Qb (Om (Qd rfl) rfl (Om (Qd rfl) rfl (Qf (Qa (Qe ?_)))))))
 refine Qe (Qb (Om (Qc rfl) rfl (Qf (Qa (Qw (Qe (Qb ?_)))))))
 refine Om (Cm rfl rfl) rfl (Om (Qd rfl) rfl (Qf (Qa (Qj rfl (fun hc1 => ?_) (fun hc1 => ?_)))))
 ·
  refine Qe (Qb (Om (Qd rfl) rfl (Om (Qd rfl) rfl (Qf (Qa (Qp (Cd ?_)))))))
  refine Qu (Cz rfl rfl rfl (Ret.mk ?_))
  refine ⟨?_, rfl⟩; unfold fwork; rw [if_pos hc1]
 ·
  refine Qe (Qb (Om (Cm rfl rfl) rfl (Om (Qd rfl) rfl (Qf (Qa (Qj rfl (fun hc2 => ?_) (fun hc2 => ?_)))))))
  ·
   refine Qe (Qb (Om (Qd rfl) rfl (Om (Qd rfl) rfl (Qf (Qa (Qp (Cd ?_)))))))
   refine Qu (Cz rfl rfl rfl (Ret.mk ?_))
   refine ⟨?_, rfl⟩; unfold fwork; rw [if_neg hc1, if_pos hc2]
  ·
   refine Qe (Qb (Om (Cm rfl rfl) rfl (Om (Qd rfl) rfl (Qf (Qa (Qj rfl (fun hc3 => ?_) (fun hc3 => ?_)))))))
   ·
    refine Qe (Qb (Om (Qd rfl) rfl (Om (Qd rfl) rfl (Qf (Qa (Qp (Cd ?_)))))))
    refine Qu (Cz rfl rfl rfl (Ret.mk ?_))
    refine ⟨?_, rfl⟩; unfold fwork; rw [if_neg hc1, if_neg hc2, if_pos hc3]
   ·
    refine Qe (Qb (Om (Cm rfl rfl) rfl (Om (Qd rfl) rfl (Qf (Qa (Qj rfl (fun hc4 => ?_) (fun hc4 => ?_)))))))
    ·
     refine Qe (Qb (Om (Qd rfl) rfl (Om (Qd rfl) rfl (Qf (Qa (Qp (Cd ?_)))))))
     refine Qu (Cz rfl rfl rfl (Ret.mk ?_))
     refine ⟨?_, rfl⟩; unfold fwork; rw [if_neg hc1, if_neg hc2, if_neg hc3, if_pos hc4]
    ·
     refine Qn (Qo (Qa (Qe (Qb (Om (Qd rfl) rfl (Om (Qd rfl) rfl (Qf ?_)))))))
     refine Qa (Qp (Cz rfl rfl rfl (Ret.mk ?_)))
     refine ⟨?_, rfl⟩; unfold fwork; rw [if_neg hc1, if_neg hc2, if_neg hc3, if_neg hc4]
theorem planner_work (r : Int) (w : World) :
  Calls Tryz.prog 191 #[.int .i64 r] w (Ret (fun v w' => v = .int .i64 (fw r) ∧ w = w')) := by
 have hb := fwork_bd r
 refine calls_of_VC (args := [.int .i64 r]) Tryz.func191 rfl Tryz.ntmps191 rfl (Qe (Qb (Om (Qd rfl) rfl (Qf (Qa (Qe (Qb ?_)))))))
 refine Om (Qc rfl) rfl (Oq (Qi Tryz.call245 rfl (fly_Work _ _ )) rfl ?_)
 rintro _ _ ⟨rfl, rfl⟩
 refine Om (Qc rfl) rfl (Om (Qq rfl rfl) rfl (Om (Qq rfl rfl) rfl (Om (Qd rfl) rfl (Om (Qd rfl) rfl (Qf (Qa (Qe ?_)))))))
 refine Qb (Om (Qc rfl) rfl (Om (Qc rfl) rfl ?_))
 refine Om (Ce rfl rfl (by rw [IntKind.wrap_i64]; omega)) rfl ?_
 refine Om (Qd rfl) rfl (Qf (Qa (Qp (Qy rfl rfl (Ret.mk ?_)))))
 exact ⟨rfl, rfl⟩
theorem planner_times (a b : Int) (w : World) (ha : 0 ≤ a) (ha2 : a ≤ 65536) (hb : -1 ≤ b) (hb2 : b ≤ 9223372036854775807) :
  Calls Tryz.prog 195 #[.int .i64 a, .int .i64 b] w (Ret (fun v w' => v = .int .i64 (timesS a b) ∧ w = w')) := by
 refine calls_of_VC (args := [.int .i64 a, .int .i64 b]) Tryz.func195 rfl Tryz.ntmps195 rfl (Qe (Qb (Om (Qd rfl) rfl (Qf (Qa (Qe (Qe ?_)))))))
 refine Qb (Om (Qc rfl) rfl (Om (Rb rfl rfl) rfl (Om (Qc rfl) rfl ?_)))
 refine Rc (b := _) 5 7 12 rfl (fun hc1 Jhc1 => by
   try simp only [bX] at hc1
   refine Om (Qc rfl) rfl (Om (Qc rfl) rfl (Om (Rn.quo0 rfl rfl (by omega) (by omega) (by omega)) rfl (Om (Rb rfl rfl) rfl (Om (Qt rfl rfl) rfl ?_))))
   exact (Qs rfl (Qs rfl (Qs rfl (Qs rfl Jhc1))))) (fun hc1 Jhc1 => by
   refine Oy rfl (Oy rfl (Oy rfl (Oy rfl (Om (Qm rfl rfl) rfl ?_))))
   exact (Qs rfl (Qs rfl (Qs rfl (Qs rfl Jhc1))))) ?_
 refine Qf (Qa (Cu rfl (fun hc2 => ?_) (fun hc2 => ?_)))
 ·
  try simp only [bX] at hc2
  refine Qe (Qb (Om (Qd rfl) rfl (Qf (Qa (Qp (Qu (Qy rfl rfl ?_)))))))
  refine Ret.mk ?_
  refine ⟨?_, rfl⟩; unfold timesS; rw [if_pos hc2]
 ·
  try simp only [bX] at hc2
  refine Qn (Qa (Qe (Qb (Om (Qc rfl) rfl (Om (Qc rfl) rfl ?_)))))
  refine Om (Cv rfl rfl (by rw [IntKind.wrap_i64]; have := times_bd ha ha2 hb (by omega); omega)) rfl ?_
  refine Om (Qd rfl) rfl (Qf (Qa (Qp (Qy rfl rfl (Ret.mk ?_)))))
  refine ⟨?_, rfl⟩; unfold timesS; rw [if_neg (fun h => by rcases hc2 with h2 | h2; exact h2 h.1; exact h2 h.2)]
theorem planner_plus (S : Nat → Prop) (xs : List Int) (A : Option Addr) (c : Nat) (w : World) (sl : SlR S w A xs.length 1 (xs.map (.int .i64 ·))) (hl : xs.length ≤ 100) (hx : ∀ x ∈ xs, -65536 ≤ x ∧ x ≤ 9223372036854775807) :
  Calls Tryz.prog 194 #[.slice A xs.length c] w (Ret (fun v w' => v = .int .i64 (plusGo 0 xs) ∧ w = w')) := by
 refine calls_of_VC (args := [.slice A xs.length c]) Tryz.func194 rfl Tryz.ntmps194 rfl (Qe (Qb (Om (Qd rfl) rfl (Qf (Qa (Qe (Qb ?_)))))))
 refine Om (Qd rfl) rfl (Qf (Qa (Qe (Qe (Qb (Om (Qc rfl) rfl (Om (Ra υ77 rfl) rfl ?_)))))))
 refine Om (Qc rfl) rfl (Qf (Qa (Qw (Cp (σ := Nat × Int) (fun (i, s) => [(3, .int .i64 s), (6, .slice A xs.length c), (7, .int .i64 xs.length), (8, .int .i64 i)]) (fun (i, s) w' => w = w' ∧ i ≤ xs.length ∧ -(65536 * (i : Int)) ≤ s ∧ s ≤ 4611686018427387904 ∧ plusGo 0 xs = plusGo s (xs.drop i)) (fun (i, s) => xs.length - i) (0, 0) ?_ ⟨rfl, rfl, rfl, rfl, trivial⟩ ?_))))
 · exact ⟨rfl, Nat.zero_le _, by simp, by omega, rfl⟩
 rintro ⟨i, s⟩ _ ⟨rfl, i1, s0, s1, hs⟩
 show VC _ _ _ _ [(3, .int .i64 s), (6, .slice A xs.length c), (7, .int .i64 xs.length), (8, .int .i64 i)] _
 refine Qe (Qb (Om (Cs rfl rfl) rfl (Qf (Qa (Qe (Qj rfl (fun hc1 => ?_) (fun hc1 => ?_)))))))
 ·
  refine Qn (Qa (Qe (Qw (Qe ?_))))
  have hxi : xs[i]? = some (xs.getD ((i : Int)).toNat 0) := by rw [Int.toNat_natCast, List.getD, List.getElem?_eq_getElem (by omega)]; rfl
  have hb := hx _ (List.mem_of_getElem? hxi)
  refine Qb (Om (Cb υ77 ς3 rfl rfl (sl.ne (by omega)) (by omega) (by omega)) rfl (Om (Qh ι3 rfl (sl.get 0 (by omega) (by omega))) rfl (Om (Qd rfl) rfl (Qf (Qa (Qe (Qe ?_)))))))
  refine Qb (Om (Qc rfl) rfl (Om (Qc rfl) rfl ?_))
  refine Om (Rf rfl rfl (by rw [IntKind.wrap_i64]; omega)) rfl ?_
  refine Om (Rb rfl rfl) rfl (Qf (Qa (Qj rfl (fun hc2 => ?_) (fun hc2 => ?_))))
  ·
   refine Qe (Qb (Om (Qd rfl) rfl (Qf (Qa (Qp (Qu (Cd ?_)))))))
   refine Qu (Qu (Cd (Qu (Qy rfl rfl (Ret.mk ?_)))))
   refine ⟨?_, rfl⟩; rw [hs, plusGo_drop hxi, if_pos hc2]
  ·
   refine Qn (Qa (Qb (Om (Qc rfl) rfl (Om (Qc rfl) rfl ?_))))
   refine Om (Ce rfl rfl (by rw [IntKind.wrap_i64]; omega)) rfl ?_
   refine Om (Qd rfl) rfl (Qf (Qo (Qa (Qb ?_))))
   refine Om (Ce rfl rfl (by rw [IntKind.wrap_i64]; omega)) rfl ?_
   refine Om (Qc rfl) rfl (Qf ?_)
   refine Ck (i + 1, s + xs.getD ((i : Int)).toNat 0) (by first | omega | (dsimp only; omega)) ?_ ⟨rfl, rfl, rfl, rfl, trivial⟩
   refine ⟨rfl, by omega, by omega, by omega, ?_⟩
   rw [hs, plusGo_drop hxi, if_neg hc2]
 ·
  refine Cr (Qk (Qk (Qz (Qa (Qe (Qb (Om (Qc rfl) rfl ?_)))))))
  refine Om (Qd rfl) rfl (Qf (Qa (Qp (Qy rfl rfl (Ret.mk ?_)))))
  refine ⟨?_, rfl⟩; have : i = xs.length := by omega
  subst this; rw [hs, List.drop_length]; rfl
theorem planner_timesCost (a b ca cb : Int) (f : Bool) (w : World) (h1 : 1 ≤ a) (h2 : a ≤ 65536) (h3 : 1 ≤ b) (h4 : b ≤ 65536) (h5 : 0 ≤ ca) (h6 : 0 ≤ cb) (h7 : ca ≤ 4611686018427387905) (h8 : cb ≤ 4611686018427387905) :
  Calls Tryz.prog 158 #[.int .i64 a, .int .i64 b, .int .i64 ca, .int .i64 cb, .bool f] w (Ret (fun v w' => v = .int .i64 (timesC a b ca cb f) ∧ Ch No w w')) := by
 have hs := six_bd h1 h2 h3 h4
 have t1 := timesS_bd (show 0 ≤ a by omega) h2 (show -1 ≤ cb by omega); have t2 := timesS_bd (show 0 ≤ b by omega) h4 (show -1 ≤ ca by omega)
 have pb := plusGo_bd [timesS a cb, timesS b ca, 6 * (a - 1) * (b - 1)] 0 (by omega) (by simp; omega)
 have pp := plusGo_pos [timesS a cb, timesS b ca, 6 * (a - 1) * (b - 1)] 0 (by omega) (by omega) (by have := timesS_pos (show 0 ≤ a by omega) h6; have := timesS_pos (show 0 ≤ b by omega) h5; simp; omega)
 refine calls_of_VC (args := [.int .i64 a, .int .i64 b, .int .i64 ca, .int .i64 cb, .bool f]) Tryz.func158 rfl Tryz.ntmps158 rfl (Qe (Qb (Om (Qd rfl) rfl (Qf (Qa (Qe (Qb ?_)))))))
 refine Om (Qc rfl) rfl (Om (Qc rfl) rfl (Oq (Qi Tryz.call195 rfl (planner_times _ _ _ (by omega) (by omega) (by omega) (by omega))) rfl ?_))
 rintro _ _ ⟨rfl, rfl⟩
 refine Om (Qc rfl) rfl (Om (Qc rfl) rfl (Oq (Qi Tryz.call195 rfl (planner_times _ _ _ (by omega) (by omega) (by omega) (by omega))) rfl ?_))
 rintro _ _ ⟨rfl, rfl⟩
 refine Om (Qc rfl) rfl ?_
 refine Om (Rf rfl rfl (by rw [IntKind.wrap_i64]; omega)) rfl ?_
 refine Om (Cv rfl rfl (by rw [IntKind.wrap_i64]; omega)) rfl ?_
 refine Om (Qc rfl) rfl ?_
 refine Om (Rf rfl rfl (by rw [IntKind.wrap_i64]; omega)) rfl ?_
 refine Om (Cv rfl rfl (by rw [IntKind.wrap_i64]; omega)) rfl ?_
 refine Oq (Cy υ77 inf3w4 (by decide) rfl rfl (by rfl) (by decide) (by decide) (by rfl)) rfl ?_
 rintro _ w1 ⟨p1, rfl, N1⟩
 have c1 := N1.ch
 have e1 := N1.p; have z1 := N1.size
 have l24 := SlR.of_new (sz := 1) (l := 3) N1 rfl
 have l24o := Ow.of_new (sz := 1) (l := 3) N1 rfl (by decide)
 refine Oq (Qi Tryz.call194 rfl (planner_plus _ [timesS a cb, timesS b ca, 6 * (a - 1) * (b - 1)] _ _ _ l24 (by simp) (by simp; omega))) rfl ?_
 rintro _ _ ⟨rfl, rfl⟩
 refine Om (Qd rfl) rfl (Qf (Qa (Qe (Qe (Qb (Om (Qc rfl) rfl (Om (Ro rfl) rfl ?_)))))))
 refine Qf (Qa (Cu rfl (fun hc1 => ?_) (fun hc1 => ?_)))
 ·
  try simp only [bX] at hc1
  refine Qb (Om (Qc rfl) rfl (Om (Qc rfl) rfl (Om (Qc rfl) rfl ?_)))
  refine Om (Cv rfl rfl (by rw [IntKind.wrap_i64]; omega)) rfl ?_
  refine Oq (Cy υ77 inf3w4 (by decide) rfl rfl (by rfl) (by decide) (by decide) (by rfl)) rfl ?_
  rintro _ w2 ⟨p2, rfl, N2⟩
  have c2 := N2.ch
  have e2 := N2.p; have z2 := N2.size
  have l32 := SlR.of_new (sz := 1) (l := 2) N2 rfl
  have l32o := Ow.of_new (sz := 1) (l := 2) N2 rfl (by decide)
  refine Oq (Qi Tryz.call194 rfl (planner_plus _ [plusGo 0 [timesS a cb, timesS b ca, 6 * (a - 1) * (b - 1)], a * b] _ _ _ l32 (by simp) (by simp; omega))) rfl ?_
  rintro _ _ ⟨rfl, rfl⟩
  refine Om (Qd rfl) rfl (Qf (Qa (Qe (Qb (Om (Qc rfl) rfl (Om (Qd rfl) rfl (Qf ?_)))))))
  refine Qa (Qp (Qy rfl rfl (Ret.mk ?_)))
  have CH_2 := (Ch.refl (No) w).and (c1.trans c2)
  refine ⟨?_, CH_2⟩; unfold timesC; rw [if_neg (by simp [hc1])]
 ·
  try simp only [bX] at hc1
  refine Qn (Qa (Qe (Qb (Om (Qc rfl) rfl (Om (Qd rfl) rfl (Qf (Qa ?_)))))))
  refine Qp (Qy rfl rfl (Ret.mk ?_))
  have CH_1 := (Ch.refl (No) w).and c1
  refine ⟨?_, CH_1⟩; unfold timesC; rw [if_pos hc1]
theorem planner_blueCost (n m cm : Int) (w : World) (h1 : 0 ≤ n) (h2 : n ≤ 65536) (h3 : 0 ≤ m) (h4 : m ≤ 65536) (h5 : -1 ≤ cm) (h6 : cm ≤ 4611686018427387905) :
  Calls Tryz.prog 162 #[.int .i64 n, .int .i64 m, .int .i64 cm] w (Ret (fun v w' => v = .int .i64 (blueC n m cm) ∧ Ch No w w')) := by
 have t1 := timesS_bd (show (0 : Int) ≤ 3 by omega) (by omega) h5
 refine calls_of_VC (args := [.int .i64 n, .int .i64 m, .int .i64 cm]) Tryz.func162 rfl Tryz.ntmps162 rfl (Qe (Qb (Om (Qd rfl) rfl (Qf (Qa (Qe (Qb ?_)))))))
 refine Om (Qc rfl) rfl (Oq (Qi Tryz.call195 rfl (planner_times _ _ _ (by omega) (by omega) (by omega) (by omega))) rfl ?_)
 rintro _ _ ⟨rfl, rfl⟩
 refine Om (Qc rfl) rfl ?_
 refine Om (Cv rfl rfl (by rw [IntKind.wrap_i64]; omega)) rfl ?_
 refine Om (Qc rfl) rfl ?_
 refine Om (Cv rfl rfl (by rw [IntKind.wrap_i64]; omega)) rfl ?_
 refine Oq (Cy υ77 inf3w4 (by decide) rfl rfl (by rfl) (by decide) (by decide) (by rfl)) rfl ?_
 rintro _ w1 ⟨p1, rfl, N1⟩
 have c1 := N1.ch
 have e1 := N1.p; have z1 := N1.size
 have l13 := SlR.of_new (sz := 1) (l := 3) N1 rfl
 have l13o := Ow.of_new (sz := 1) (l := 3) N1 rfl (by decide)
 refine Oq (Qi Tryz.call194 rfl (planner_plus _ [timesS 3 cm, 12 * n, 10 * m] _ _ _ l13 (by simp) (by simp; omega))) rfl ?_
 rintro _ _ ⟨rfl, rfl⟩
 refine Om (Qd rfl) rfl (Qf (Qa (Qp (Qy rfl rfl (Ret.mk ?_)))))
 have CH_1 := (Ch.refl (No) w).and c1
 exact ⟨rfl, CH_1⟩
theorem planner_cost (k n : Int) (A : Option Addr) (c : Nat) (w : World) (hk : k = 1 ∨ k = 2) (h1 : 0 ≤ n) (h2 : n ≤ 65536) :
  Calls Tryz.prog 155 #[.agg #[.int .i64 k, .int .i64 n, .slice A 0 c]] w (Ret (fun v w' => v = .int .i64 (lcost k n) ∧ Ch No w w')) := by
 have hs := sq_bd h1 h2
 refine calls_of_VC (args := [.agg #[.int .i64 k, .int .i64 n, .slice A 0 c]]) Tryz.func155 rfl Tryz.ntmps155 rfl (Qe (Qb (Oq (Cj rfl) rfl ?_)))
 rintro _ w1 ⟨p1, rfl, N1⟩
 have c1 := N1.ch
 have e1 := N1.p; have z1 := N1.size
 have b1 := Bk.new N1
 refine Om (Qd rfl) rfl (Qf (Qa (Qe (Qe (Qb (Om (Qg υ53 rfl ς3 rfl rfl rfl) rfl (Om (Qh ι3 rfl (b1.cell rfl)) rfl ?_)))))))
 refine Qf (Qa (Qw (Qe (Qb (Om (Cm rfl rfl) rfl (Om (Qd rfl) rfl (Qf ?_)))))))
 refine Qa (Qj rfl (fun hc1 => ?_) (fun hc1 => ?_))
 ·
  refine Qe (Qb (Om (Qg υ53 rfl ς3 rfl rfl rfl) rfl (Om (Qh ι3 rfl (b1.cell rfl)) rfl ?_)))
  refine Om (Cv rfl rfl (by rw [IntKind.wrap_i64]; omega)) rfl ?_
  refine Om (Qg υ53 rfl ς3 rfl rfl rfl) rfl (Om (Qh ι3 rfl (b1.cell rfl)) rfl ?_)
  refine Om (Cv rfl rfl (by rw [IntKind.wrap_i64]; omega)) rfl ?_
  refine Om (Qd rfl) rfl (Qf (Qa (Qp (Cd (Qu (Qy rfl rfl (Ret.mk ?_)))))))
  have CH_1 := (Ch.refl (No) w).and c1
  refine ⟨?_, CH_1⟩; unfold lcost; rw [if_pos hc1]
 ·
  refine Qe (Qb (Om (Cm rfl rfl) rfl (Om (Qd rfl) rfl (Qf (Qa (Qj rfl (fun hc2 => ?_) (fun hc2 => ?_)))))))
  ·
   refine Qe (Qb (Om (Qg υ53 rfl ς3 rfl rfl rfl) rfl (Om (Qh ι3 rfl (b1.cell rfl)) rfl (Oq (Qi Tryz.call191 rfl (planner_work _ _ )) rfl ?_))))
   rintro _ _ ⟨rfl, rfl⟩
   refine Om (Qd rfl) rfl (Qf (Qa (Qp (Cd (Qu (Qy rfl rfl (Ret.mk ?_)))))))
   have CH_1 := (Ch.refl (No) w).and c1
   refine ⟨?_, CH_1⟩; unfold lcost; rw [if_neg hc1]
  ·
   exact absurd hk (by omega)
end Go.Tm
namespace Go.Tm
open Go.RowKit
def NoPO (Q : Exit → Act → World → Prop) : Exit → Act → World → Prop
  | .panic _, _, _ => False
  | .outgrown, _, _ => False
  | e, a, w => Q e a w
theorem NoPO.letsOut {Q : Exit → Act → World → Prop} : ¬ LetsOut (NoPO Q) := fun ⟨_, _, h⟩ => h
def notDef (o : Oper) : Bool := match o.op with
  | .defer _ => false
  | _ => true
theorem notDef_spec {o : Oper} (h : notDef o = true) : ∀ c, o.op ≠ .defer c := by
  intro c e
  simp [notDef, e] at h
section
variable {P : Program} {rr : Option Nat} {Q : Exit → Act → World → Prop} {ops : Array Oper}
theorem calls_fw {f : FuncId} {args : Array Value} {w : World} {R : Ending → World → Prop} {m : Nat} (h : Calls P f args w R) : CallsIn (Fw rr) m P f args w R := (callsIn_wide (n := m)).2 h
theorem rows_fw {row : String} {args : Array Value} {w : World} {R : Value → World → Prop} {m : Nat} (h : Rows P row args w R) : RowsIn (Fw rr) m P row args w R :=
  fun c cs _ => let ⟨v, w', r, s⟩ := h c cs; ⟨v, w', r, (stepsIn_wide (P := P)).2 s⟩
theorem op_fw {o : Oper} {a : Act} {w : World} {K K' : Act → World → Prop} (hd : notDef o = true) (hK : ∀ a w, K a w → K' a w) (h : o.wp P a w K (NoPO Q)) : o.wpIn (Fw rr) 0 P a w K' Q := by
  refine ⟨fun _ _ => trivial, ?_⟩
  rw [Oper.semAt_eq _ _ _ (notDef_spec hd)]
  unfold Oper.wp at h
  generalize (execOp a.eval o).run P w = res at h
  cases res with
  | ok x w' =>
    cases x <;> simp only [Oper.upon, Oper.uponIn] at h ⊢ <;> first
      | exact hK _ _ h
      | exact ⟨fun e => by simp [Fw, Fence.wide] at e, calls_fw (h.mono fun e w'' he => by cases e <;> first | exact hK _ _ he | exact he.elim | exact (NoPO.letsOut he).elim)⟩
      | exact ⟨fun e => by simp [Fw, Fence.wide] at e, rows_fw (h.mono fun _ _ he => hK _ _ he)⟩
      | exact h.elim
  | halt x w' => cases x <;> simp only [Oper.upon, Oper.uponIn] at h ⊢ <;> first | exact h.elim | exact h
theorem list_fw : ∀ (l : List Oper) (a : Act) (w : World), l.all notDef = true → wpList P ops (NoPO Q) l a w → wpListIn (Fw rr) 0 P ops Q l a w
  | [], _, _, _, h => h
  | o :: l, a, w, hd, h => by
    simp only [List.all_cons, Bool.and_eq_true] at hd
    simp only [wpList, wpListIn] at h ⊢
    split
    · rename_i hw
      rw [if_pos hw] at h
      rcases h with h | h
      · exact op_fw hd.1 (fun a w => list_fw l a w hd.2) h
      · exact (NoPO.letsOut h.2).elim
    · rename_i hw
      rw [if_neg hw] at h
      exact ⟨fun _ _ => trivial, list_fw l _ w hd.2 h⟩
theorem any_fw {md : Region.Mode} (hd : ops.toList.all notDef = true) : ∀ (fuel : Nat) (listed : Array Bool) (a : Act) (w : World), wpAny P md ops (NoPO Q) fuel listed a w → wpAnyIn (Fw rr) 0 P md ops Q fuel listed a w
  | 0, _, _, _, h => h
  | fuel + 1, listed, a, w, h => by
    refine ⟨h.1, fun i hi => ?_⟩
    have h2 := h.2 i hi
    unfold wpOp at h2
    unfold wpOpIn
    cases ho : ops[i]? with
    | none => rw [ho] at h2; exact any_fw hd fuel _ a w h2
    | some o =>
      rw [ho] at h2
      simp only at h2 ⊢
      have hdo : notDef o = true := List.all_eq_true.1 hd o (by have := Array.mem_of_getElem? ho; simpa using this)
      split
      · rename_i hw
        rw [if_pos hw] at h2
        rcases h2 with h2 | h2
        · exact op_fw hdo (fun a w => any_fw hd fuel _ a w) h2
        · exact (NoPO.letsOut h2.2).elim
      · rename_i hw
        rw [if_neg hw] at h2
        exact ⟨fun _ _ => trivial, any_fw hd fuel _ _ w h2⟩
end
section
variable {P : Program} {rr : Option Nat} {n : Fr} {Q : Exit → Act → World → Prop} {k : K} {w : World}
theorem Ry {id : Nat} {l : List Oper} (hd : l.all notDef = true) (h : VO P n l.toArray (NoPO Q) l k w) : VC (r := rr) P n (.region id l.toArray false) Q k w := fun a ha => wpIn_region_lit (list_fw l a w hd (h a ha))
theorem VC.drawsR {id : Nat} {l : List Oper} (m : Nat) (order : List (Nat × Bool)) (S : World → World → Prop) (hm : P.follows .mixedOrders = true) (hd : l.all notDef = true) (hB : Region.orderOk .any l.toArray m order = true) (hS : ∀ w1, w1 = w.drew → S w1 w1)
    (h : ∀ w1, w1 = w.drew → VH P n l.toArray (NoPO Q) (S w1) (fun a' w' => wpList P l.toArray (NoPO Q) (l.drop m) a' w') order k w1) : VC (r := rr) P n (.region id l.toArray true) Q k w :=
  fun a ha => wpIn_region_any hm (any_fw (by simpa using hd) _ _ a _ (any_of_order m order (S w.drew) hB (fun _ _ _ _ _ h => h) (hS _ rfl) (h _ rfl a ha)))
theorem Wf (h : VQ n Q .normal k w) : VQ n (NoPO Q) .normal k w := h
end
section
variable {P : Program} {n : Fr} {ops : Array Oper} {Q : Exit → Act → World → Prop} {k : K} {w : World} {rest : List Oper} {o : Oper}
def VY (P : Program) (n : Fr) (ops : Array Oper) (Q : Exit → Act → World → Prop) (l : List Oper) (k : K) (w : World) : Prop := ∀ a, Fits n k a → wpListIn (Fw none) 0 P ops Q l a w
theorem VC.regionY {id : Nat} {l : List Oper} (h : VY P n l.toArray Q l k w) : VC (r := none) P n (.region id l.toArray false) Q k w := fun a ha => wpIn_region_lit (h a ha)
theorem VY.nil (h : VQ n Q .normal k w) : VY P n ops Q [] k w := fun a ha => h a ha
theorem Rq {d : Nat} (hd : o.dst = some d) (hg : guardOk ops k o.guard = some false) (hn : Nat.blt d n.sz = true) (h : VY P n ops Q rest ((d, undef) :: k) w) : VY P n ops Q (o :: rest) k w := by
  intro a ha
  unfold wpListIn
  rw [guardOk_wanted hg ha]
  simp only [Bool.false_eq_true, if_false]
  rw [hd]
  exact ⟨fun _ _ => trivial, h _ (ha.put hn _)⟩
theorem Rp {d : Nat} {v : Value} (hr : Rn P n k w o v) (hd : o.dst = some d) (hg : guardOk ops k o.guard = some true) (hn : Nat.blt d n.sz = true)
    (h : VY P n ops Q rest ((d, v) :: k) w) : VY P n ops Q (o :: rest) k w := by
  intro a ha
  unfold wpListIn
  rw [guardOk_wanted hg ha]
  simp only [if_true]
  refine ⟨fun _ _ => trivial, ?_⟩
  show Oper.uponIn _ _ _ _ _ _ _ ((Oper.semAt none a.eval o).run P w)
  rw [Oper.semAt_none, hr a ha, Oper.uponIn_value, hd]
  exact h _ (ha.put hn _)
theorem VY.split {b : Bool} {l : List Oper} (t : Nat) (hb : kget k t = some (.bool b)) (ht : b = true → VY P n ops Q l ((t, .bool true) :: k) w) (hf : b = false → VY P n ops Q l ((t, .bool false) :: k) w) : VY P n ops Q l k w := by
  intro a ha
  have h := ha.set hb
  cases b
  · exact hf rfl a h
  · exact ht rfl a h
theorem VY.split_if {p : Prop} [Decidable p] {l : List Oper} (t : Nat) (hb : kget k t = some (.bool (decide p))) (ht : p → VY P n ops Q l ((t, .bool true) :: k) w) (hf : ¬ p → VY P n ops Q l ((t, .bool false) :: k) w) : VY P n ops Q l k w :=
  VY.split t hb (fun h => ht (of_decide_eq_true h)) (fun h => hf (of_decide_eq_false h))
theorem VY.yield {d l : Nat} {x : Operand} {xs : List Operand} {vs : List Value} {ts : Array TypeId} {ty : TypeId} {pos : String} {aft : Array Edge} {g : Option (Nat × Bool)} {R : Ending → World → Prop}
    (hx : ev k x = some (.func (.yield l) #[] #[])) (hxs : evs k xs = some vs) (hy : YieldAt Fence.wide 0 P l vs.toArray w R) (hg : guardOk ops k g = some true) (hn : Nat.blt d n.sz = true)
    (h : ∀ e w', R e w' → ∃ b, e = .returned (.bool b) ∧ VY P n ops Q rest ((d, .bool b) :: k) w') :
    VY P n ops Q ({ dst := some d, op := .call { callee := .value x, args := xs.toArray, argTypes := ts }, type := ty, pos := pos, after := aft, guard := g } :: rest) k w := by
  intro a ha
  unfold wpListIn
  rw [guardOk_wanted (o := { dst := some d, op := .call { callee := .value x, args := xs.toArray, argTypes := ts }, type := ty, pos := pos, after := aft, guard := g }) hg ha]
  simp only [if_true]
  refine ⟨fun _ _ => trivial, ?_⟩
  obtain ⟨fn, tmps, assign, body, hr, hround⟩ := hy
  have he := ha.evals hxs
  have hrun : (execOp a.eval { dst := some d, op := .call { callee := .value x, args := xs.toArray, argTypes := ts }, type := ty, pos := pos, after := aft, guard := g }).run P w = .ok (.round l fn tmps assign body) w := by
    simp [execOp, resolve, ha.eval hx, Deferred.ofValue, invoke, he, hr]
  show Oper.uponIn _ _ _ _ _ _ _ ((Oper.semAt none a.eval _).run P w)
  rw [Oper.semAt_none, hrun, Oper.uponIn_round]
  refine ⟨fun e => by simp [Fw, Fence.wide] at e, RoundIn.mono hround ?_⟩
  intro e w' he'
  obtain ⟨b, rfl, hv⟩ := h e w' he'
  exact hv _ (ha.put hn _)
end
def Gn (B : Nat) (w w' : World) : Prop := Ch (fun q => B ≤ q ∧ ∃ o, w.heap[q]? = some o ∧ o.isCells = false) w w'
theorem Gn.of {B : Nat} {w w' : World} {row : Option Nat} (h : w.grownBy w' row) (hr : ∀ r, row = some r → B ≤ r ∧ ∃ o : Obj, w.heap[r]? = some o ∧ o.isCells = false) : Gn B w w' := by
  obtain ⟨h1, h2, h3, h4, h5⟩ := h
  refine ⟨h1, h2, h3, h4, fun q x hq hx => (h5 q (blk_lt hx) (fun e => hq (hr q e.symm))).trans hx⟩
theorem notC {w : World} {q B : Nat} (h : isC w q) : ¬ (B ≤ q ∧ ∃ o, w.heap[q]? = some o ∧ o.isCells = false) := by
  obtain ⟨cs, t, fr, h⟩ := h
  rintro ⟨_, o, h1, h2⟩
  rw [h] at h1
  injection h1 with h1
  subst h1
  cases h2
section
variable {B : Nat} {w w' : World} (g : Gn B w w')
include g
theorem Bk.toG {p : Nat} {cs : Array Value} {t : TypeId} (h : Bk w p cs t) : Bk w' p cs t := h.to g (notC ⟨_, _, _, h.blk⟩)
theorem RdK.toG {S : Nat → Prop} {A : Option Addr} {ks : List Ord} (h : RdK S w A ks) : RdK S w' A ks := h.to g fun _ _ _ hx => notC hx
theorem Ch.toG {D : Nat → Prop} {w0 : World} (h : Ch D w0 w) (hB : w0.heap.size ≤ B) : Ch D w0 w' := h.then g fun q hq h => h.elim id fun ⟨hb, _⟩ => absurd hq (by omega)
end
def KpB (p : Nat) (w w' : World) : Prop := ∀ x, w.heap[p]? = some x → w'.heap[p]? = some x
theorem KpB.trans {p : Nat} {A B C : World} (h : KpB p A B) (h' : KpB p B C) : KpB p A C := fun x hx => h' x (h x hx)
theorem KpB.putObj {p B : Nat} (hp : p < B) (W : World) (l : Nat) (o o' : Obj) (hl : B ≤ l) (_ : W.heap[l]? = some o) (_ : o.isCells = false) (_ : o.isWalk = false) : KpB p W (W.putObj l o') :=
  fun x hx => (World.putObj_heap_other (by omega)).trans hx
theorem KpB.of {p : Nat} {D : Nat → Prop} {w w' : World} (c : Ch D w w') (hd : ¬ D p) : KpB p w w' := fun x hx => c.old p x hd hx
theorem VC.rangeFunc {α : Type} {P : Program} {n : Fr} {Q : Exit → Act → World → Prop} {k : K} {w : World} {g : Operand} {p d id : Nat} {ty : TypeId} {pos : String} {aft : Array Edge} {body : Code} {gf : Nat} {lb : Array Value}
    (hg : ev k g = some (.func (.func gf) #[] lb)) (eg : ∀ args w, (callFunc gf args).run P w = .ok (.enter gf args) w)
    {enc : α → Value} {Kp : World → World → Prop} {S Sp : List α → Prop} {N : Nat} {w0 : World} (hseq : SeqStopsK Fence.wide 0 P gf lb (fun x => #[enc x]) Kp S Sp N w0)
    (hKt : ∀ {A B C : World}, Kp A B → Kp B C → Kp A C) (hKb : ∀ (W : World) (l : Nat) (o o' : Obj), w.heap.size ≤ l → W.heap[l]? = some o → o.isCells = false → o.isWalk = false → Kp W (W.putObj l o')) (hb0 : Below w0.heap.size w0 w)
    (hp : Nat.blt p n.sz = true) (hd : Nat.blt d n.sz = true)
    (I : List α → World → Prop) (Ix : Code → List α → World → Prop) (hI : OwnFrom w.heap.size I) (hIx : ∀ c, OwnFrom w.heap.size (Ix c)) (h0 : I [] w)
    (hbody : ∀ (l : Nat) (pre : List α) (x : α) (W : World), I pre W → pre.length < N → VC (r := some l) P ⟨n.sz, []⟩ body (ownPostG w.heap.size Kp I Ix (pre ++ [x]) W) ((d, enc x) :: (p, enc x) :: k) W)
    (hdone : ∀ (D : Nat) (xs : List α) (W : World), w.heap.size ≤ D → S xs → I xs W → W.heap[D]? = some (.deferred (some [])) → VQ ⟨n.sz, { target := .collected D, args := #[] } :: n.ds⟩ Q .normal k W)
    (hstop : ∀ (D : Nat) (c : Code) (pre : List α) (W : World), w.heap.size ≤ D → Sp pre → Ix c pre W → W.heap[D]? = some (.deferred (some [])) → VC (r := none) P ⟨n.sz, { target := .collected D, args := #[] } :: n.ds⟩ c Q k W) :
    VC (r := none) P n (.rangeFunc g #[p] (.region id #[{ dst := some d, op := .assign (.tmp p), type := ty, pos := pos, after := aft, guard := none }] false) body) Q k w := by
  intro a ha
  have hpn : p < n.sz := by simpa [Nat.blt_eq] using hp
  have hdn : d < n.sz := by simpa [Nat.blt_eq] using hd
  have key : ∀ m, (Code.rangeFunc g #[p] (.region id #[{ dst := some d, op := .assign (.tmp p), type := ty, pos := pos, after := aft, guard := none }] false) body).wpIn Fence.wide 1 P Q a w → (Code.rangeFunc g #[p] (.region id #[{ dst := some d, op := .assign (.tmp p), type := ty, pos := pos, after := aft, guard := none }] false) body).wpIn (Fw none) m P Q a w :=
    fun m h => (wpIn_wide (n := m)).2 (wpIn_wide.1 h)
  refine key 0 ?_
  have hfr : ∀ (x : α), Fits ⟨n.sz, []⟩ ((d, enc x) :: (p, enc x) :: k) { tmps := (a.tmps.setIfInBounds p (enc x)).setIfInBounds d (enc x), defers := [] } := by
    intro x
    have h1 : Fits ⟨n.sz, []⟩ k { tmps := a.tmps, defers := [] } := ⟨rfl, ha.size, ha.known⟩
    exact (h1.put (d := p) (by simpa using hp) (enc x)).put (d := d) (by simpa using hd) (enc x)
  refine wpIn_rangeFunc_ownG rfl (Nat.le_refl _) (ha.eval hg) trivial eg (n := 1) hseq hKt hKb hb0 (fun _ => rfl) I Ix hI hIx h0 (fun x => { tmps := (a.tmps.setIfInBounds p (enc x)).setIfInBounds d (enc x), defers := [] }) ?_ ?_ ?_ ?_
  · intro l x W K hK
    refine wpIn_region_lit (l := [_]) ?_
    simp only [wpListIn, Region.wanted, if_true]
    refine ⟨fun _ _ => trivial, ?_⟩
    rw [Oper.semAt_eq _ _ _ (by intro c e; cases e)]
    have hps : p < a.tmps.size := by rw [ha.size]; exact hpn
    simp [execOp, Oper.uponIn, Act.put, Act.eval, Exit.then, hps]
    exact hK
  · intro l pre x W hi hl
    exact hbody l pre x W hi hl _ (hfr x)
  · intro D xs W hD hS hi hk
    exact hdone D xs W hD hS hi hk _ ⟨by simp [ha.defers], ha.size, ha.known⟩
  · intro D c pre W hD hS hi hk
    exact wpIn_wide.2 (wpIn_none.1 (hstop D c pre W hD hS hi hk _ ⟨by simp [ha.defers], ha.size, ha.known⟩))
theorem calls_of_VCM {P : Program} {n : Nat} {f : FuncId} {fn : Func} {c : Code} {args : List Value} {w : World} {R : Ending → World → Prop} (hf : P.funcs[f]? = some fn) (hb : fn.body = some c) (hn : fn.ntmps = n)
  (hlen : Nat.ble args.length n = true) (h : VC (r := none) P ⟨n, []⟩ c (bodyPostM Fence.wide 0 P fn R) (kargs args 0) w) : Calls P f args.toArray w R := by
 refine callsIn_wide.1 (callsIn_of_wp_marks (n := 0) hf hb trivial (h _ ?_))
 have hl : args.length ≤ n := Nat.le_of_ble_eq_true hlen
 refine ⟨rfl, by simp [hn]; omega, fun i v hi => ?_⟩
 obtain ⟨_, h2⟩ := kargs_known args 0 i v hi
 rw [Nat.sub_zero] at h2
 have hlt : i < args.length := (List.getElem?_eq_some_iff.1 h2).1
 rw [Array.getElem?_append_left (by simpa using hlt)]
 simpa using h2
section
variable {P : Program} {m : Nat} {k : K} {w : World} {fn : Func} {R : Ending → World → Prop}
theorem VQ.toM (h : VQ ⟨m, []⟩ (bodyPost P fn R) .ret k w) : VQ ⟨m, []⟩ (bodyPostM Fence.wide 0 P fn R) .ret k w := by
  intro a ha
  obtain ⟨hd, hv⟩ := h a ha
  show LeavesInM _ _ _ _ _ _ a.defers _ _
  rw [hd]
  exact hv
theorem VQ.dropD {D : Nat} (hD : w.heap[D]? = some (.deferred (some []))) (h : ∀ w', w' = w.putObj D (.deferred none) → VQ ⟨m, []⟩ (bodyPostM Fence.wide 0 P fn R) .ret k w') : VQ ⟨m, [{ target := .collected D, args := #[] }]⟩ (bodyPostM Fence.wide 0 P fn R) .ret k w := by
  intro a ha
  have h1 := h _ rfl { a with defers := [] } ⟨rfl, ha.size, ha.known⟩
  show LeavesInM _ _ _ _ _ _ a.defers _ _
  rw [ha.defers]
  exact ⟨by simp, .inl ⟨_, _, rfl, run_takeDeferred hD, h1⟩⟩
theorem Gn.put {B D : Nat} {o : Obj} (hD : w.heap[D]? = some (.deferred (some []))) (hB : B ≤ D) : Gn B w (w.putObj D o) := Gn.of (grownBy_putObj' _ _ _) (fun r e => by cases e; exact ⟨hB, _, hD, rfl⟩)
end
structure Df (w : World) (D : Nat) : Prop where
  blk : w.heap[D]? = some (.deferred (some []))
theorem Df.to {w w' : World} {p : Nat} (h : Df w p) {D : Nat → Prop} (c : Ch D w w') (hd : ¬ D p := by first | exact id | omega) : Df w' p := ⟨c.old _ _ hd h.blk⟩
theorem Df.keep {w w' : World} {p : Nat} (h : Df w p) (c : Ch No w w') : Df w' p := h.to c id
theorem VQ.roundF {α : Type} {n : Fr} {k : K} {W w' : World} {B : Nat} {Kp : World → World → Prop} {I : List α → World → Prop} {Ix : Code → List α → World → Prop} {xs : List α} {D : Nat → Prop} (hc : Ch D W w') (hD : ∀ q, D q → q < B) (hk : Kp W w') (hI : I xs w') :
    VQ n (ownPostG B Kp I Ix xs W) .normal k w' := fun _ _ => ⟨⟨hc.size, fun q o hB hq _ => hc.old q o (fun h => by have := hD q h; omega) hq⟩, hk, hI⟩
end Go.Tm
namespace Go.Tm
def upGo (n : Int) : Nat → List Int
  | 0 => []
  | c + 1 => upGo n c ++ (if n % ((c : Int) + 1) = 0 then [(c : Int) + 1] else [])
def dnGo (n : Int) (e : Nat) : Nat → List Int
  | 0 => []
  | c + 1 => dnGo n e c ++ (if n % ((e : Int) - c) = 0 ∧ n / ((e : Int) - c) ≥ (e : Int) - c then [n / ((e : Int) - c)] else [])
def divsAt (n : Int) (e : Nat) : List Int := upGo n (e - 1) ++ dnGo n e e
def DivE (n : Int) (e : Nat) : Prop := 1 ≤ e ∧ (e = 1 ∨ ((e : Int) - 1) * ((e : Int) - 1) < n) ∧ n ≤ (e : Int) * e
theorem upGo_len (n : Int) : ∀ c, (upGo n c).length ≤ c
  | 0 => by simp [upGo]
  | c + 1 => by
    have := upGo_len n c
    simp only [upGo, List.length_append]
    split <;> simp <;> omega
theorem dnGo_len (n : Int) (e : Nat) : ∀ c, (dnGo n e c).length ≤ c
  | 0 => by simp [dnGo]
  | c + 1 => by
    have := dnGo_len n e c
    simp only [dnGo, List.length_append]
    split <;> simp <;> omega
theorem sq_lt {c : Nat} {n : Int} (h : (c : Int) * c < n) (hn : n ≤ 4294967296) : c < 65536 := by
  rcases Nat.lt_or_ge c 65536 with h1 | h1
  · exact h1
  · have := Int.mul_le_mul (show (65536 : Int) ≤ c by omega) (show (65536 : Int) ≤ c by omega) (by omega) (by omega)
    omega
theorem sq_le {c : Int} (h0 : 0 ≤ c) (h1 : c ≤ 65537) : 0 ≤ c * c ∧ c * c ≤ 4295098369 :=
  ⟨Int.mul_nonneg h0 h0, Int.le_trans (Int.mul_le_mul h1 h1 h0 (by omega)) (by decide)⟩
theorem quo_bd {n d : Int} (h0 : 0 ≤ n) (h1 : 1 ≤ d) : 0 ≤ n / d ∧ n / d ≤ n := ⟨Int.ediv_nonneg h0 (by omega), Int.ediv_le_self d h0⟩
theorem DivE.mk' {n : Int} {c : Nat} (hc : c = 0 ∨ (c : Int) * c < n) (h : ¬ ((c : Int) + 1) * ((c : Int) + 1) < n) : DivE n (c + 1) := by
  refine ⟨by omega, ?_, ?_⟩
  · rcases hc with rfl | hc
    · exact .inl rfl
    · right
      simpa using hc
  · simp only [Int.natCast_add, Int.natCast_one]
    omega
theorem divE_ok {n d : Int} (h1 : 1 ≤ n) (hd : 1 ≤ d) (h : n % d = 0) : 1 ≤ n / d ∧ n / d ≤ n ∧ n % (n / d) = 0 := by
  have e : n / d * d = n := Int.ediv_mul_cancel (Int.dvd_of_emod_eq_zero h)
  have h2 := quo_bd (show 0 ≤ n by omega) hd
  have h3 : n / d ≠ 0 := by intro e0; rw [e0] at e; omega
  refine ⟨by omega, h2.2, ?_⟩
  exact Int.emod_eq_zero_of_dvd ⟨d, e.symm⟩
end Go.Tm
namespace Go.Tm
set_option maxRecDepth 100000
open Go.RowKit Go.Proofs
theorem divisors1 (l pd : Nat) (n : Int) (h1 : 1 ≤ n) (h2 : n ≤ 4294967296) (J Jx : List Int → World → Prop) (W : World) (hY : ∀ (pre : List Int) (x : Int) W1, (1 ≤ x ∧ x ≤ n ∧ n % x = 0) → J pre W1 → pre.length < 200000 → YieldAt Fence.wide 0 Tryz.prog l #[.int .i64 x] W1 fun e W' => (e = .returned (.bool true) ∧ J (pre ++ [x]) W' ∧ KpB pd W1 W') ∨ (e = .returned (.bool false) ∧ Jx (pre ++ [x]) W')) (hb : Bk W pd #[.int .i64 n] 3) (hJ : J [] W) :
  Calls Tryz.prog 192 #[.func (.yield l) #[] #[], .pointer (some ⟨pd, 0, none⟩)] W (Ret (fun _ w' => (∃ xs, (∃ e, DivE n e ∧ xs = divsAt n e) ∧ J xs w') ∨ ∃ pre, Jx pre w')) := by
 refine calls_of_VC (args := [.func (.yield l) #[] #[], .pointer (some ⟨pd, 0, none⟩)]) Tryz.func192 rfl Tryz.ntmps192 rfl (Qe (Qe (Qb (Om (Qh ι3 rfl (hb.cell rfl)) rfl (Om (Cs rfl rfl) rfl (Om (Qc rfl) rfl ?_))))))
 refine Rd (b := _) 3 6 9 rfl (fun hc1 Jhc1 => by
   refine Oy rfl (Oy rfl (Om (Qt rfl rfl) rfl ?_))
   exact (Qs rfl (Qs rfl Jhc1))) (fun hc1 Jhc1 => by
   try simp only [bX] at hc1
   refine Om (Qh ι3 rfl (hb.cell rfl)) rfl (Om (Rb rfl rfl) rfl (Om (Qm rfl rfl) rfl ?_))
   exact (Qs rfl (Qs rfl Jhc1))) ?_
 refine Qf (Qa (Cu rfl (fun hc2 => ?_) (fun hc2 => ?_)))
 ·
  try simp only [bX] at hc2
  omega
 ·
  try simp only [bX] at hc2
  refine Qn (Qa (Qe (Qb (Om (Qd rfl) rfl (Qf (Qa (Qe ?_)))))))
  refine Qw (Cp (σ := Nat) (fun c => [(0, .func (.yield l) #[] #[]), (1, .pointer (some ⟨pd, 0, none⟩)), (3, .int .i64 ((c : Int) + 1))]) (fun c w' => Bk w' pd #[.int .i64 n] 3 ∧ J (upGo n c) w' ∧ (c = 0 ∨ (c : Int) * c < n) ∧ c ≤ 65536) (fun c => 65537 - c) 0 ?_ ⟨rfl, rfl, rfl, trivial⟩ ?_)
  · exact ⟨hb, hJ, .inl rfl, by omega⟩
  rintro c w1 ⟨hb_1, hJ, hc, hc0⟩
  show VC _ _ _ _ [(0, .func (.yield l) #[] #[]), (1, .pointer (some ⟨pd, 0, none⟩)), (3, .int .i64 ((c : Int) + 1))] _
  have hs := sq_le (c := (c : Int) + 1) (by omega) (by omega); have hs2 := Int.mul_le_mul_of_nonneg_left (show (1 : Int) ≤ (c : Int) + 1 by omega) (show (0 : Int) ≤ (c : Int) + 1 by omega)
  refine Qe (Qe (Qb (Om (Qc rfl) rfl (Om (Qc rfl) rfl ?_))))
  refine Om (Cv rfl rfl (by rw [IntKind.wrap_i64]; omega)) rfl ?_
  refine Om (Qh ι3 rfl (hb_1.cell rfl)) rfl (Om (Cs rfl rfl) rfl (Qf (Qa (Qj rfl (fun hc3 => ?_) (fun hc3 => ?_)))))
  ·
   refine Qn (Qa (Qe (Qw (Qe (VC.regionY (Rp (Qh ι3 rfl (hb_1.cell rfl)) rfl rfl rfl (Rp (Qc rfl) rfl rfl rfl ?_)))))))
   refine Rp (Rs rfl rfl (by omega) (by omega)) rfl rfl rfl (Rp (Cm rfl rfl) rfl rfl rfl (Rp (Qc rfl) rfl rfl rfl (VY.split_if 21 rfl (fun hc4 => ?_) (fun hc4 => ?_))))
   ·
    refine Rp (Qc rfl) rfl rfl rfl (Rp (Qc rfl) rfl rfl rfl ?_)
    refine VY.yield rfl rfl (hY (upGo n c) ((c : Int) + 1) _ ⟨by omega, by omega, hc4⟩ hJ (by have := upGo_len n c; omega)) rfl rfl ?_
    rintro _ w2 (⟨rfl, hJy, hky⟩ | ⟨rfl, hJy⟩)
    ·
     refine ⟨_, rfl, ?_⟩
     have hb_2 : Bk w2 pd #[.int .i64 n] 3 := ⟨hky _ hb_1.blk⟩
     refine Rp (Ro rfl) rfl rfl rfl (Rp (Qt rfl rfl) rfl rfl rfl (VY.nil (Qa (Ca rfl (Qn (Qo (Qa ?_)))))))
     refine Qb (Om (Qc rfl) rfl ?_)
     refine Om (Ce rfl rfl (by rw [IntKind.wrap_i64]; omega)) rfl ?_
     refine Om (Qd rfl) rfl (Qf ?_)
     refine Ck (c + 1) (by first | omega | (dsimp only; omega)) ?_ ⟨rfl, rfl, rfl, trivial⟩
     refine ⟨hb_2, ?_, .inr hc3, ?_⟩
     · simp only [upGo, if_pos hc4]; exact hJy
     · have := sq_lt (c := c + 1) hc3 h2; omega
    ·
     refine ⟨_, rfl, ?_⟩
     refine Rp (Ro rfl) rfl rfl rfl (Rp (Qt rfl rfl) rfl rfl rfl (VY.nil (Qa (Cw rfl (Qp (Cd (Qu ?_)))))))
     refine Qu (Cd (Qu (VQ.ret0 rfl (Ret.mk ?_))))
     exact .inr ⟨_, hJy⟩
   ·
    refine Rq rfl rfl rfl (Rq rfl rfl rfl (Rq rfl rfl rfl (Rq rfl rfl rfl (Rp (Qm rfl rfl) rfl rfl rfl (VY.nil (Qa (Ca rfl ?_)))))))
    refine Qn (Qo (Qa (Qb (Om (Qc rfl) rfl ?_))))
    refine Om (Ce rfl rfl (by rw [IntKind.wrap_i64]; omega)) rfl ?_
    refine Om (Qd rfl) rfl (Qf ?_)
    refine Ck (c + 1) (by first | omega | (dsimp only; omega)) ?_ ⟨rfl, rfl, rfl, trivial⟩
    refine ⟨hb_1, ?_, .inr hc3, ?_⟩
    · simp only [upGo, if_neg hc4, List.append_nil]; exact hJ
    · have := sq_lt (c := c + 1) hc3 h2; omega
  ·
   refine Cr (Qk (Qk (Qz (Qa (Qw ?_)))))
   obtain ⟨e, he⟩ : ∃ e, e = c + 1 := ⟨_, rfl⟩
   have hE : DivE n e := by subst he; exact DivE.mk' hc hc3
   refine Cp (σ := Int) (fun d => [(0, .func (.yield l) #[] #[]), (1, .pointer (some ⟨pd, 0, none⟩)), (3, .int .i64 d)]) (fun d w' => Bk w' pd #[.int .i64 n] 3 ∧ J (upGo n (e - 1) ++ dnGo n e ((e : Int) - d).toNat) w' ∧ 0 ≤ d ∧ d ≤ e) (fun d => d.toNat) ((c : Int) + 1) ?_ ⟨rfl, rfl, rfl, trivial⟩ ?_
   · exact ⟨hb_1, by subst he; simpa [dnGo] using hJ, by omega, by omega⟩
   rintro d w3 ⟨hb_3, hJ, hd, hd2⟩
   show VC _ _ _ _ [(0, .func (.yield l) #[] #[]), (1, .pointer (some ⟨pd, 0, none⟩)), (3, .int .i64 d)] _
   have hl1 := upGo_len n (e - 1); have hl2 := dnGo_len n e ((e : Int) - d).toNat
   refine Qe (Qe (Qb (Om (Qc rfl) rfl (Om (Rb rfl rfl) rfl (Qf (Qa (Qj rfl (fun hc5 => ?_) (fun hc5 => ?_))))))))
   ·
    refine Qn (Qa (Qe (Qw (Qe (VC.regionY (Rp (Qh ι3 rfl (hb_3.cell rfl)) rfl rfl rfl (Rp (Qc rfl) rfl rfl rfl ?_)))))))
    refine Rp (Rs rfl rfl (by omega) (by omega)) rfl rfl rfl (Rp (Cm rfl rfl) rfl rfl rfl (Rp (Qc rfl) rfl rfl rfl (VY.split_if 35 rfl (fun hc6 => ?_) (fun hc6 => ?_))))
    ·
     refine Rp (Qh ι3 rfl (hb_3.cell rfl)) rfl rfl rfl (Rp (Qc rfl) rfl rfl rfl (Rp (Rn.quo0 rfl rfl (by omega) (by omega) (by omega)) rfl rfl rfl (Rp (Qc rfl) rfl rfl rfl (Rp (Wb rfl rfl) rfl rfl rfl (Rp (Qt rfl rfl) rfl rfl rfl (Rp (Qc rfl) rfl rfl rfl (VY.split_if 42 rfl (fun hc7 => ?_) (fun hc7 => ?_))))))))
     ·
      refine Rp (Qc rfl) rfl rfl rfl (Rp (Qh ι3 rfl (hb_3.cell rfl)) rfl rfl rfl (Rp (Qc rfl) rfl rfl rfl (Rp (Rn.quo0 rfl rfl (by omega) (by omega) (by omega)) rfl rfl rfl ?_)))
      refine VY.yield rfl rfl (hY (upGo n (e - 1) ++ dnGo n e ((e : Int) - d).toNat) (n / d) _ (divE_ok h1 (by omega) hc6) hJ (by have := @List.length_append _ (upGo n (e - 1)) (dnGo n e ((e : Int) - d).toNat); omega)) rfl rfl ?_
      rintro _ w4 (⟨rfl, hJy, hky⟩ | ⟨rfl, hJy⟩)
      ·
       refine ⟨_, rfl, ?_⟩
       have hb_4 : Bk w4 pd #[.int .i64 n] 3 := ⟨hky _ hb_3.blk⟩
       refine Rp (Ro rfl) rfl rfl rfl (Rp (Qt rfl rfl) rfl rfl rfl (VY.nil (Qa (Ca rfl (Qn (Qo (Qa ?_)))))))
       refine Qb (Om (Qc rfl) rfl ?_)
       refine Om (Rf rfl rfl (by rw [IntKind.wrap_i64]; omega)) rfl ?_
       refine Om (Qd rfl) rfl (Qf ?_)
       refine Ck (d - 1) (by first | omega | (dsimp only; omega)) ?_ ⟨rfl, rfl, rfl, trivial⟩
       have ec : ((e : Int) - (d - 1)).toNat = ((e : Int) - d).toNat + 1 := by omega
       have e2 : (e : Int) - (((e : Int) - d).toNat : Int) = d := by omega
       refine ⟨hb_4, ?_, by omega, by omega⟩
       rw [ec]; simp only [dnGo]; rw [e2]
       rw [if_pos ⟨hc6, hc7⟩, ← List.append_assoc]; exact hJy
      ·
       refine ⟨_, rfl, ?_⟩
       refine Rp (Ro rfl) rfl rfl rfl (Rp (Qt rfl rfl) rfl rfl rfl (VY.nil (Qa (Cw rfl (Qp (Cd (Qu ?_)))))))
       refine Qu (Cd (VQ.ret0 rfl (Ret.mk ?_)))
       exact .inr ⟨_, hJy⟩
     ·
      refine Rq rfl rfl rfl (Rq rfl rfl rfl (Rq rfl rfl rfl (Rq rfl rfl rfl (Rq rfl rfl rfl (Rq rfl rfl rfl (Rp (Qm rfl rfl) rfl rfl rfl (VY.nil ?_)))))))
      refine Qa (Ca rfl (Qn (Qo (Qa (Qb (Om (Qc rfl) rfl ?_))))))
      refine Om (Rf rfl rfl (by rw [IntKind.wrap_i64]; omega)) rfl ?_
      refine Om (Qd rfl) rfl (Qf ?_)
      refine Ck (d - 1) (by first | omega | (dsimp only; omega)) ?_ ⟨rfl, rfl, rfl, trivial⟩
      have ec : ((e : Int) - (d - 1)).toNat = ((e : Int) - d).toNat + 1 := by omega
      have e2 : (e : Int) - (((e : Int) - d).toNat : Int) = d := by omega
      refine ⟨hb_3, ?_, by omega, by omega⟩
      rw [ec]; simp only [dnGo]; rw [e2]
      rw [if_neg (fun h => hc7 h.2), List.append_nil]; exact hJ
    ·
     refine Rq rfl rfl rfl (Rq rfl rfl rfl (Rq rfl rfl rfl (Rq rfl rfl rfl (Rq rfl rfl rfl (Rp (Qm rfl rfl) rfl rfl rfl (Rp (Qc rfl) rfl rfl rfl (Rq rfl rfl rfl ?_)))))))
     refine Rq rfl rfl rfl (Rq rfl rfl rfl (Rq rfl rfl rfl (Rq rfl rfl rfl (Rq rfl rfl rfl (Rp (Qm rfl rfl) rfl rfl rfl (VY.nil (Qa ?_)))))))
     refine Ca rfl (Qn (Qo (Qa (Qb (Om (Qc rfl) rfl ?_)))))
     refine Om (Rf rfl rfl (by rw [IntKind.wrap_i64]; omega)) rfl ?_
     refine Om (Qd rfl) rfl (Qf ?_)
     refine Ck (d - 1) (by first | omega | (dsimp only; omega)) ?_ ⟨rfl, rfl, rfl, trivial⟩
     have ec : ((e : Int) - (d - 1)).toNat = ((e : Int) - d).toNat + 1 := by omega
     have e2 : (e : Int) - (((e : Int) - d).toNat : Int) = d := by omega
     refine ⟨hb_3, ?_, by omega, by omega⟩
     rw [ec]; simp only [dnGo]; rw [e2]
     rw [if_neg (fun h => hc6 h.1), List.append_nil]; exact hJ
   ·
    refine Cr (Qk (Qk (Qz (Ri rfl (Ret.mk ?_)))))
    have hd0 : d = 0 := by omega
    subst hd0
    exact .inl ⟨divsAt n e, ⟨e, hE, rfl⟩, by simpa [divsAt] using hJ⟩
abbrev Dv (n : Int) := { x : Int // 1 ≤ x ∧ x ≤ n ∧ n % x = 0 }
theorem divisors_stops (n : Int) (pd : Nat) (w0 : World) (h1 : 1 ≤ n) (h2 : n ≤ 4294967296) (hb : Bk w0 pd #[.int .i64 n] 3) :
    SeqStopsK Fence.wide 0 Tryz.prog 192 #[.pointer (some ⟨pd, 0, none⟩)] (fun x : Dv n => #[.int .i64 x.1]) (KpB pd) (fun xs => ∃ e, DivE n e ∧ xs.map (·.1) = divsAt n e) (fun _ => True) 200000 w0 := by
  intro l J Jx W hW hJ hJx hY h0
  refine callsIn_wide.2 ?_
  have hb' : Bk W pd #[.int .i64 n] 3 := ⟨(hW.block pd hb.lt).trans hb.blk⟩
  refine (divisors1 l pd n h1 h2 (fun l' w => ∃ xs : List (Dv n), xs.map (·.1) = l' ∧ J xs w) (fun l' w => ∃ xs : List (Dv n), Jx xs w) W ?_ hb' ⟨[], rfl, h0⟩).mono ?_
  · rintro pre x W1 hx ⟨xs, rfl, hj⟩ hlen
    obtain ⟨fn, tmps, assign, body, hy, hr⟩ := hY xs ⟨x, hx⟩ W1 hj (by simpa using hlen)
    refine ⟨fn, tmps, assign, body, hy, hr.mono ?_⟩
    rintro e W' (⟨rfl, h3, h4⟩ | ⟨rfl, h3⟩)
    · exact .inl ⟨rfl, ⟨_, by simp, h3⟩, h4⟩
    · exact .inr ⟨rfl, _, h3⟩
  · rintro e W' ⟨v, rfl, (⟨xs, hS, xs', h3, h4⟩ | ⟨pre, xs', h3⟩)⟩
    · obtain ⟨e, he, rfl⟩ := hS
      exact ⟨⟨_, rfl⟩, .inl ⟨xs', ⟨e, he, h3⟩, h4⟩⟩
    · exact ⟨⟨_, rfl⟩, .inr ⟨xs', trivial, h3⟩⟩
theorem primes_Divisors (n : Int) (w : World) :
  Calls Tryz.prog 156 #[.int .i64 n] w (Ret (fun v w' => ∃ pd, v = .func (.func 192) #[] #[.pointer (some ⟨pd, 0, none⟩)] ∧ Bk w' pd #[.int .i64 n] 3 ∧ w.heap.size ≤ pd ∧ Ch No w w')) := by
 refine calls_of_VC (args := [.int .i64 n]) Tryz.func156 rfl Tryz.ntmps156 rfl (Qe (Qb (Oq (Cj rfl) rfl ?_)))
 rintro _ w1 ⟨p1, rfl, N1⟩
 have c1 := N1.ch
 have e1 := N1.p; have z1 := N1.size
 have b1 := Bk.new N1
 refine Om (Qd rfl) rfl (Qf (Qa (Qe (Qb (Om (Rn.func rfl rfl) rfl (Om (Qd rfl) rfl (Qf ?_)))))))
 refine Qa (Qp (Qy rfl rfl (Ret.mk ?_)))
 have CH_1 := (Ch.refl (No) w).and c1
 exact ⟨_, rfl, b1, by omega, CH_1⟩
end Go.Tm
namespace Go.Tm
structure Pol where
  direct : Int
  flies : List Int
  prime : Int
def headsM (P : Pol) (a : Int) : List Ord := (if a ≤ P.direct then [.mk 1 a []] else []) ++ (if P.flies.contains a then [.mk 2 a []] else [])
theorem mem_heads {P : Pol} {a : Int} {o : Ord} (h : o ∈ headsM P a) : (o.kind = 1 ∨ o.kind = 2) ∧ o.n = a ∧ o.kids = [] := by
  unfold headsM at h
  rw [List.mem_append] at h
  rcases h with h | h <;> split at h <;> simp at h <;> subst h <;> simp [Ord.kind, Ord.n, Ord.kids]
theorem contains_snoc {l : List Int} {x y : Int} (h : l.contains x = false) (hy : ¬ x = y) : (l ++ [y]).contains x = false := by
  rw [Bool.eq_false_iff] at h ⊢
  simpa [hy] using h
def PolOk (P : Pol) : Prop := 2 ≤ P.direct ∧ P.direct ≤ 64 ∧ 2 ≤ P.prime ∧ P.prime ≤ P.direct ∧ (∀ i : Nat, ∀ r, P.flies[i]? = some r → (if i = 0 then 1 else P.flies.getD (i - 1) 0) < r ∧ r ≤ 5)
def divO : Nat → Int → Int → List Int → Int × List Int
  | 0, n, _, l => (n, l)
  | f + 1, n, p, l => if n % p = 0 then divO f (n / p) p (l ++ [p]) else (n, l)
def facO : Nat → Int → Int → List Int → List Int
  | 0, _, _, l => l
  | f + 1, n, p, l => if p * p ≤ n then facO f (divO 15 n p l).1 (p + 1) (divO 15 n p l).2 else if n > 1 then l ++ [n] else l
def facs (n : Int) : List Int := facO 200 n 2 []
theorem divO_stop {g : Nat} {m p : Int} {l : List Int} (h : ¬ m % p = 0) : divO g m p l = (m, l) := by
  cases g with
  | zero => rfl
  | succ g => rw [divO, if_neg h]
theorem g_pos {g : Nat} {m : Int} (h1 : 1 ≤ m) (h2 : m < 2 ^ g) : ∃ g', g = g' + 1 := by
  cases g with
  | zero => simp at h2; omega
  | succ g => exact ⟨g, rfl⟩
theorem sq_mono {p q : Int} (h0 : 0 ≤ p) (h : p ≤ q) : p * p ≤ q * q := Int.mul_le_mul h h h0 (by omega)
theorem div_half {n p m : Int} (hp : 2 ≤ p) (hn : 1 ≤ n) (h : n % p = 0) (hm : n < 2 * m) : 1 ≤ n / p ∧ n / p < m ∧ n / p ≤ n := by
  have h1 : n / p * p = n := Int.ediv_mul_cancel (Int.dvd_of_emod_eq_zero h)
  have h2 : 0 ≤ n / p := Int.ediv_nonneg (by omega) (by omega)
  have h3 : 0 < n / p := by
    rcases Int.lt_or_eq_of_le h2 with h | h
    · exact h
    · rw [← h] at h1; omega
  have h4 : 2 * (n / p) ≤ n := by
    have := Int.mul_le_mul_of_nonneg_left hp h2
    omega
  omega
def offerM (b : Ord × Int) (o : Ord) (c : Int) : Ord × Int := if b.2 < 0 ∨ c < b.2 then (o, c) else b
def best0 (P : Pol) (n : Int) : Ord × Int := (headsM P n).foldl (fun b o => offerM b o (lcost o.kind o.n)) (.mk 0 0 [], -1)
def offerH (n a : Int) (r : Ord × Int) (b : Ord × Int) (h : Ord) : Ord × Int := if r.2 ≥ 0 then offerM b (.mk 3 0 [h, r.1]) (timesC a (n / a) (lcost h.kind h.n) r.2 (decide (h.kind = 2))) else b
def stepM (rec : Int → Option (Ord × Int)) (P : Pol) (n : Int) (b : Ord × Int) (a : Int) : Option (Ord × Int) :=
  if a < 2 ∨ a = n then some b else if headsM P a = [] then some b else
    match rec (n / a) with
    | none => none
    | some r => some ((headsM P a).foldl (offerH n a r) b)
def IsP2 (x m : Int) : Prop := (∃ j : Nat, m = 2 ^ j) ∧ x ≤ m ∧ ∀ j : Nat, x ≤ 2 ^ j → m ≤ 2 ^ j
def hardM (P : Pol) (fs : List Int) (n : Int) : Bool := fs.any (fun q => decide (q > P.prime)) && decide (n ≤ 8192)
def goM (rec : Int → Option (Ord × Int)) (P : Pol) (n : Int) : List Int → Ord × Int → Option (Ord × Int)
  | [], b => some b
  | a :: t, b => match stepM rec P n b a with
    | none => none
    | some b' => goM rec P n t b'
theorem stepM_mono {rec rec' : Int → Option (Ord × Int)} (h : ∀ n r, rec n = some r → rec' n = some r) {P : Pol} {n a : Int} {b r : Ord × Int} (hs : stepM rec P n b a = some r) : stepM rec' P n b a = some r := by
  unfold stepM at *
  split
  · rename_i h1; rw [if_pos h1] at hs; exact hs
  · rename_i h1
    rw [if_neg h1] at hs
    split
    · rename_i h2; rw [if_pos h2] at hs; exact hs
    · rename_i h2
      rw [if_neg h2] at hs
      cases hr : rec (n / a) with
      | none => rw [hr] at hs; cases hs
      | some x => rw [hr] at hs; rw [h _ _ hr]; exact hs
theorem goM_mono {rec rec' : Int → Option (Ord × Int)} (h : ∀ n r, rec n = some r → rec' n = some r) {P : Pol} {n : Int} : ∀ {l : List Int} {b r : Ord × Int}, goM rec P n l b = some r → goM rec' P n l b = some r
  | [], _, _, hs => hs
  | a :: t, b, r, hs => by
    simp only [goM] at hs ⊢
    cases h1 : stepM rec P n b a with
    | none => rw [h1] at hs; cases hs
    | some b' => rw [h1] at hs; rw [stepM_mono h h1]; exact goM_mono h hs
theorem goM_snoc {rec : Int → Option (Ord × Int)} {P : Pol} {n : Int} : ∀ {l : List Int} {a : Int} {b r r' : Ord × Int}, goM rec P n l b = some r → stepM rec P n r a = some r' → goM rec P n (l ++ [a]) b = some r'
  | [], a, b, r, r', h, hs => by
    simp only [goM] at h
    injection h with h
    subst h
    simp only [List.nil_append, goM, hs]
  | x :: t, a, b, r, r', h, hs => by
    simp only [goM, List.cons_append] at h ⊢
    cases h1 : stepM rec P n b x with
    | none => rw [h1] at h; cases h
    | some b' => rw [h1] at h; exact goM_snoc h hs
def isq (n : Int) : Nat := ((List.range 200).find? fun e : Nat => decide (n ≤ (e : Int) * e) && decide (1 ≤ e)).getD 0
theorem isq_eq {n : Int} {e : Nat} (h : DivE n e) (hn : n ≤ 16384) : e = isq n := by
  obtain ⟨h1, h2, h3⟩ := h
  have he : e ≤ 128 := by
    rcases Nat.lt_or_ge 128 e with h | h
    · exfalso
      rcases h2 with h2 | h2
      · omega
      · have := Int.mul_le_mul (show (128 : Int) ≤ (e : Int) - 1 by omega) (show (128 : Int) ≤ (e : Int) - 1 by omega) (by omega) (by omega)
        omega
    · exact h
  unfold isq
  have hf : (List.range 200).find? (fun e : Nat => decide (n ≤ (e : Int) * e) && decide (1 ≤ e)) = some e := by
    rw [List.find?_range_eq_some]
    refine ⟨by simp [h1, h3], by simp; omega, ?_⟩
    intro j hj
    simp only [Bool.not_eq_true', Bool.and_eq_false_iff, decide_eq_false_iff_not]
    by_cases hj0 : j = 0
    · right; omega
    · left
      rcases h2 with h2 | h2
      · omega
      · have := Int.mul_le_mul (show (j : Int) ≤ (e : Int) - 1 by omega) (show (j : Int) ≤ (e : Int) - 1 by omega) (by omega) (by omega)
        omega
  rw [hf]
  rfl
def up2Go (x : Int) : Nat → Int → Int
  | 0, m => m
  | f + 1, m => if x ≤ m then m else up2Go x f (2 * m)
def up2 (x : Int) : Int := up2Go x 40 1
theorem up2Go_spec {x : Int} : ∀ (f j : Nat), x ≤ 2 ^ (j + f) → (∀ i : Nat, x ≤ 2 ^ i → (2 : Int) ^ j ≤ 2 ^ i) → IsP2 x (up2Go x f (2 ^ j))
  | 0, j, h, hi => ⟨⟨j, rfl⟩, h, hi⟩
  | f + 1, j, h, hi => by
    rw [up2Go]
    split
    · rename_i h1
      exact ⟨⟨j, rfl⟩, h1, hi⟩
    · rename_i h1
      have e : (2 : Int) * 2 ^ j = 2 ^ (j + 1) := by rw [Int.pow_succ]; omega
      rw [e]
      refine up2Go_spec f (j + 1) (by rw [show j + 1 + f = j + (f + 1) by omega]; exact h) fun i hx => ?_
      have h2 := hi i hx
      rcases Nat.lt_or_ge j i with hji | hji
      · exact_mod_cast Nat.pow_le_pow_right (by omega : 0 < 2) hji
      · have h3 : (2 : Int) ^ i ≤ 2 ^ j := by exact_mod_cast Nat.pow_le_pow_right (by omega : 0 < 2) hji
        omega
theorem up2_spec {x : Int} (h0 : 1 ≤ x) (h : x ≤ 1073741824) : IsP2 x (up2 x) :=
  up2Go_spec 40 0 (Int.le_trans h (by decide)) fun i _ => by
    have : 0 < (2 : Int) ^ i := Int.pow_pos (by omega)
    simp
    omega
theorem up2_pos {x : Int} (h0 : 1 ≤ x) (h : x ≤ 1073741824) : 1 ≤ up2 x := by have := (up2_spec h0 h).2.1; omega
theorem up2_le {x : Int} {j : Nat} (h0 : 1 ≤ x) (h : x ≤ 1073741824) (hj : x ≤ 2 ^ j) : up2 x ≤ 2 ^ j := (up2_spec h0 h).2.2 j hj
def bestF (P : Pol) : Nat → Int → Option (Ord × Int)
  | 0, _ => none
  | f + 1, n =>
    match goM (bestF P f) P n (divsAt n (isq n)) (best0 P n) with
    | none => none
    | some b => if hardM P (facs n) n then
        match bestF P f (up2 (2 * n - 1)) with
        | none => none
        | some x => some (offerM b (.mk 4 n [x.1]) (blueC n (up2 (2 * n - 1)) x.2))
      else some b
theorem bestF_succ {P : Pol} : ∀ (f : Nat) (n : Int) (r : Ord × Int), bestF P f n = some r → bestF P (f + 1) n = some r
  | 0, n, r, h => by simp [bestF] at h
  | f + 1, n, r, h => by
    have ih := bestF_succ (P := P) f
    rw [bestF] at h ⊢
    cases h1 : goM (bestF P f) P n (divsAt n (isq n)) (best0 P n) with
    | none => rw [h1] at h; cases h
    | some b =>
      rw [h1] at h
      rw [goM_mono ih h1]
      simp only at h ⊢
      split
      · rename_i h2
        rw [if_pos h2] at h
        cases h3 : bestF P f (up2 (2 * n - 1)) with
        | none => rw [h3] at h; cases h
        | some x => rw [h3] at h; rw [ih _ _ h3]; exact h
      · rename_i h2
        rw [if_neg h2] at h
        exact h
theorem bestF_le {P : Pol} {f g : Nat} {n : Int} {r : Ord × Int} (hfg : f ≤ g) (h : bestF P f n = some r) : bestF P g n = some r := by
  induction hfg with
  | refl => exact h
  | step _ ih => exact bestF_succ _ _ _ ih
def Best (P : Pol) (n : Int) (r : Ord × Int) : Prop := ∃ f, bestF P f n = some r
theorem Best.unique {P : Pol} {n : Int} {r r' : Ord × Int} (h : Best P n r) (h' : Best P n r') : r = r' := by
  obtain ⟨f, h⟩ := h
  obtain ⟨g, h'⟩ := h'
  have h1 := bestF_le (Nat.le_max_left f g) h
  have h2 := bestF_le (Nat.le_max_right f g) h'
  rw [h1] at h2
  injection h2
def GoB (P : Pol) (n : Int) (l : List Int) (b : Ord × Int) : Prop := ∃ f, goM (bestF P f) P n l (best0 P n) = some b
theorem GoB.nil (P : Pol) (n : Int) : GoB P n [] (best0 P n) := ⟨0, rfl⟩
theorem GoB.skip {P : Pol} {n a : Int} {l : List Int} {b : Ord × Int} (h : GoB P n l b) (ha : (a < 2 ∨ a = n) ∨ headsM P a = []) : GoB P n (l ++ [a]) b := by
  obtain ⟨f, h⟩ := h
  refine ⟨f, goM_snoc h ?_⟩
  unfold stepM
  rcases ha with ha | ha
  · rw [if_pos ha]
  · simp [ha]
theorem GoB.step {P : Pol} {n a : Int} {l : List Int} {b r : Ord × Int} (h : GoB P n l b) (h1 : ¬ (a < 2 ∨ a = n)) (hr : Best P (n / a) r) : GoB P n (l ++ [a]) ((headsM P a).foldl (offerH n a r) b) := by
  obtain ⟨f, h⟩ := h
  obtain ⟨g, hr⟩ := hr
  refine ⟨max f g, goM_snoc (goM_mono (fun n r => bestF_le (Nat.le_max_left f g)) h) ?_⟩
  unfold stepM
  rw [if_neg h1]
  by_cases h2 : headsM P a = []
  · rw [if_pos h2, h2]; rfl
  · rw [if_neg h2, bestF_le (Nat.le_max_right f g) hr]
theorem GoB.plain {P : Pol} {n : Int} {b : Ord × Int} (h : GoB P n (divsAt n (isq n)) b) (hh : hardM P (facs n) n = false) : Best P n b := by
  obtain ⟨f, h⟩ := h
  refine ⟨f + 1, ?_⟩
  rw [bestF, h]
  simp [hh]
theorem GoB.hard {P : Pol} {n : Int} {b x : Ord × Int} (h : GoB P n (divsAt n (isq n)) b) (hh : hardM P (facs n) n = true) (hx : Best P (up2 (2 * n - 1)) x) : Best P n (offerM b (.mk 4 n [x.1]) (blueC n (up2 (2 * n - 1)) x.2)) := by
  obtain ⟨f, h⟩ := h
  obtain ⟨g, hx⟩ := hx
  refine ⟨max f g + 1, ?_⟩
  rw [bestF, goM_mono (fun n r => bestF_le (Nat.le_max_left f g)) h]
  simp only [hh, if_true]
  rw [bestF_le (Nat.le_max_right f g) hx]
theorem facs_pow2 : ∀ j : Nat, j < 15 → (facs (2 ^ j)).all (fun q => decide (q ≤ 2)) = true := by decide +kernel
theorem hard_pow2 {P : Pol} {n : Int} (hp : 2 ≤ P.prime) (hn : n ≤ 16384) (h : ∃ j : Nat, n = 2 ^ j) : hardM P (facs n) n = false := by
  obtain ⟨j, rfl⟩ := h
  have hj : j < 15 := by
    rcases Nat.lt_or_ge j 15 with h | h
    · exact h
    · have h1 : (2 : Int) ^ 15 ≤ 2 ^ j := by exact_mod_cast Nat.pow_le_pow_right (by omega : 0 < 2) h
      have : (2 : Int) ^ 15 = 32768 := by decide
      omega
  have h1 := facs_pow2 j hj
  unfold hardM
  have h2 : (facs (2 ^ j)).any (fun q => decide (q > P.prime)) = false := by
    rw [List.any_eq_false]
    intro q hq
    have := List.all_eq_true.1 h1 q hq
    simp only [decide_eq_true_eq] at this ⊢
    omega
  rw [h2]
  rfl
theorem nat_pow2_of_mul : ∀ (j x y : Nat), x * y = 2 ^ j → ∃ i, y = 2 ^ i
  | 0, x, y, h => ⟨0, by simpa using Nat.eq_one_of_mul_eq_one_left h⟩
  | j + 1, x, y, h => by
    rcases Nat.mod_two_eq_zero_or_one y with hy | hy
    · obtain ⟨y', rfl⟩ : ∃ y', y = 2 * y' := ⟨y / 2, by omega⟩
      have : x * y' = 2 ^ j := by
        rw [Nat.pow_succ] at h
        have : x * (2 * y') = 2 * (x * y') := by rw [← Nat.mul_assoc, Nat.mul_comm x 2, Nat.mul_assoc]
        omega
      obtain ⟨i, rfl⟩ := nat_pow2_of_mul j x y' this
      exact ⟨i + 1, by rw [Nat.pow_succ]; omega⟩
    · rcases Nat.mod_two_eq_zero_or_one x with hx | hx
      · obtain ⟨x', rfl⟩ : ∃ x', x = 2 * x' := ⟨x / 2, by omega⟩
        have : x' * y = 2 ^ j := by
          rw [Nat.pow_succ] at h
          have : 2 * x' * y = 2 * (x' * y) := by rw [Nat.mul_assoc]
          omega
        exact nat_pow2_of_mul j x' y this
      · exfalso
        have h1 : (x * y) % 2 = 1 := by rw [Nat.mul_mod, hx, hy]
        rw [h, Nat.pow_succ] at h1
        omega
theorem pow2_quo {n a : Int} (hn : 1 ≤ n) (ha : 1 ≤ a) (hd : n % a = 0) (h : ∃ j : Nat, n = 2 ^ j) : ∃ j : Nat, n / a = 2 ^ j := by
  obtain ⟨j, hj⟩ := h
  have e : n / a * a = n := Int.ediv_mul_cancel (Int.dvd_of_emod_eq_zero hd)
  have h0 : 0 ≤ n / a := Int.ediv_nonneg (by omega) (by omega)
  obtain ⟨y, hy⟩ : ∃ y : Nat, n / a = y := ⟨(n / a).toNat, by omega⟩
  obtain ⟨x, hx⟩ : ∃ x : Nat, a = x := ⟨a.toNat, by omega⟩
  have h2 : x * y = 2 ^ j := by
    rw [hy] at e
    rw [hj] at e
    rw [hx] at e
    have : ((x * y : Nat) : Int) = ((2 ^ j : Nat) : Int) := by
      push_cast
      rw [Int.mul_comm]
      exact e
    exact_mod_cast this
  obtain ⟨i, hi⟩ := nat_pow2_of_mul j x y h2
  exact ⟨i, by rw [hy, hi]; push_cast; rfl⟩
def usual : Pol := ⟨16, [2, 3, 4, 5], 13⟩
end Go.Tm
namespace Go.Tm
open Go.RowKit
section
variable {κ : Type} [BEq κ] [LawfulBEq κ]
structure MpG (mk : κ → Value) (w : World) (b : Nat) (m : List (κ × Value)) : Prop where
  ex : ∃ es clock, w.heap[b]? = some (.map es clock) ∧ es.toList.map (fun e => (e.key, e.val)) = m.map (fun x => (mk x.1, x.2))
omit [BEq κ] [LawfulBEq κ] in
theorem MpG.to {mk : κ → Value} {w w' : World} {b : Nat} {m : List (κ × Value)} (h : MpG mk w b m) {D : Nat → Prop} (c : Ch D w w') (hd : ¬ D b := by first | exact id | omega) : MpG mk w' b m := by
  obtain ⟨es, cl, h1, h2⟩ := h
  exact ⟨es, cl, c.old _ _ hd h1, h2⟩
omit [BEq κ] [LawfulBEq κ] in
theorem MpG.keep {mk : κ → Value} {w w' : World} {b : Nat} {m : List (κ × Value)} (h : MpG mk w b m) (c : Ch No w w') : MpG mk w' b m := h.to c id
omit [BEq κ] [LawfulBEq κ] in
theorem MpG.lt {mk : κ → Value} {w : World} {b : Nat} {m : List (κ × Value)} (h : MpG mk w b m) : b < w.heap.size := by
  obtain ⟨es, cl, h1, _⟩ := h
  exact blk_lt h1
def mfind (m : List (κ × Value)) (k : κ) : Option Value := (m.find? fun x => k == x.1).map (·.2)
def mset1 : List (κ × Value) → κ → Value → List (κ × Value)
  | [], k, v => [(k, v)]
  | x :: t, k, v => if k == x.1 then (k, v) :: t else x :: mset1 t k v
theorem mem_mset1 {k : κ} {v : Value} : ∀ {m : List (κ × Value)} {x : κ × Value}, x ∈ mset1 m k v → x = (k, v) ∨ x ∈ m
  | [], x, h => by simpa [mset1] using h
  | y :: t, x, h => by
    simp only [mset1] at h
    split at h
    · simp only [List.mem_cons] at h
      rcases h with h | h
      · exact .inl h
      · exact .inr (List.mem_cons_of_mem _ h)
    · simp only [List.mem_cons] at h
      rcases h with h | h
      · exact .inr (h ▸ List.mem_cons_self)
      · exact (mem_mset1 h).imp id (List.mem_cons_of_mem _)
theorem findNow_eq {mk : κ → Value} {kind : TypeDesc} (hs : ∀ a b, Instr.sameNow kind (mk a) (mk b) = some (a == b)) (k : κ) : ∀ (es : List MapEntry) (m : List (κ × Value)) (i : Nat), es.map (fun e => (e.key, e.val)) = m.map (fun x => (mk x.1, x.2)) →
    (mfind m k = none ∧ Instr.findNow kind (mk k) es i = some none) ∨ ∃ j v e, mfind m k = some v ∧ es[j]? = some e ∧ e.key = mk k ∧ Instr.findNow kind (mk k) es i = some (some (i + j, v)) ∧
      (∀ v', ((es.modify j fun e => { e with key := mk k, val := v' }).map fun e => (e.key, e.val)) = (mset1 m k v').map (fun x => (mk x.1, x.2)))
  | [], m, i, h => by
    cases m with
    | nil => exact .inl ⟨rfl, rfl⟩
    | cons x t => simp at h
  | e :: es, m, i, h => by
    cases m with
    | nil => simp at h
    | cons x t =>
      simp only [List.map_cons, List.cons.injEq, Prod.mk.injEq] at h
      obtain ⟨⟨hk, hv⟩, ht⟩ := h
      simp only [Instr.findNow, hk, hs]
      by_cases hx : (k == x.1) = true
      · right
        have hkx : k = x.1 := by simpa using hx
        refine ⟨0, e.val, e, ?_, rfl, by rw [hk, hkx], ?_, ?_⟩
        · simp [mfind, hx, hv]
        · simp [hx]
        · intro v'
          simp [mset1, hx, ht]
      · have hx' : (k == x.1) = false := by simpa using hx
        rcases findNow_eq hs k es t (i + 1) ht with ⟨h1, h2⟩ | ⟨j, v, e', h1, h2, h3, h4, h5⟩
        · left
          refine ⟨?_, ?_⟩
          · simpa [mfind, hx'] using h1
          · simp [hx', h2]
        · right
          refine ⟨j + 1, v, e', ?_, by simpa using h2, h3, ?_, ?_⟩
          · simpa [mfind, hx'] using h1
          · simp only [hx', h4]
            congr 3
            omega
          · intro v'
            simp only [mset1, hx', List.modify_succ_cons, List.map_cons, Bool.false_eq_true, if_false]
            rw [h5 v', hk, hv]
structure KeyK (P : Program) (kt : TypeId) (mk : κ → Value) : Prop where
  ex : ∃ kind, P.underlying kt = some kind ∧ (∀ a b, Instr.sameNow kind (mk a) (mk b) = some (a == b)) ∧ (∀ b n a w, (Instr.checkKey b (n + 1) kt (mk a)).run P w = .ok () w) ∧ ∀ a, Instr.sameBits 10000 (mk a) (mk a) = true
end
theorem getMap {P : Program} {w : World} {r : Nat} {es : Array MapEntry} {clock : Nat} (hb : w.heap[r]? = some (.map es clock)) : (getObj r).run P w = .ok (.map es clock) w := by
  simp [getObj, Sem.run, hb]
theorem setMap {P : Program} {w : World} {r : Nat} {es : Array MapEntry} {clock : Nat} (o : Obj) (hb : w.heap[r]? = some (.map es clock)) : (setObj r o).run P w = .ok () { w with heap := w.heap.setIfInBounds r o } := by
  simp [setObj, Sem.run, hb]
theorem KeyK.int {P : Program} {kt : TypeId} {q : IntKind} (h : P.underlying kt = some (.int q)) : KeyK P kt (fun a : Int => Value.int q a) :=
  ⟨_, h, fun a b => by simp [Instr.sameNow], fun b n a w => by simp [Instr.checkKey, run_underlying h], fun a => by simp [Instr.sameBits]⟩
section
variable {κ : Type} [BEq κ] [LawfulBEq κ] {P : Program} {n : Fr} {k : K} {w : World} {d : Option Tmp} {ty : TypeId} {pos : String} {aft : Array Edge} {g : Option (Nat × Bool)} {mk : κ → Value} {t kt et : TypeId} {x y z : Operand} {b : Nat} {m : List (κ × Value)} {key : κ}
theorem run_findKey (kind : TypeDesc) (h1 : P.underlying kt = some kind) {es : List MapEntry} {r : Option (Nat × Value)} {kv : Value} (h : Instr.findNow kind kv es 0 = some r) : (Instr.findKey kt kv es).run P w = .ok r w := by
  simp [Instr.findKey, run_underlying h1, h]
theorem Rn.lookup_some {v : Value} (ht : P.underlying t = some (.map kt et)) (hk : KeyK P kt mk) (hx : ev k x = some (.map (some b))) (hy : ev k y = some (mk key)) (h : MpG mk w b m) (hv : mfind m key = some v) :
    Rn P n k w { dst := d, op := .lookup t x y true, type := ty, pos := pos, after := aft, guard := g } (.tuple #[v, .bool true]) := by
  obtain ⟨kind, h1, h2, h3, h4⟩ := hk
  obtain ⟨es, cl, h5, h6⟩ := h
  intro a ha
  rcases findNow_eq h2 key es.toList m 0 h6 with ⟨e, _⟩ | ⟨j, v', e', f1, f2, f3, f4, f5⟩
  · rw [hv] at e; cases e
  · rw [hv] at f1
    injection f1 with f1
    subst f1
    simp [execOp, ha.eval hx, ha.eval hy, Instr.lookup, run_underlying ht, getMap h5, h3, run_findKey kind h1 f4]
theorem Rn.lookup_none {zv : Value} (ht : P.underlying t = some (.map kt et)) (hk : KeyK P kt mk) (hz : ∀ w, (zeroValue et).run P w = .ok zv w) (hx : ev k x = some (.map (some b))) (hy : ev k y = some (mk key)) (h : MpG mk w b m) (hv : mfind m key = none) :
    Rn P n k w { dst := d, op := .lookup t x y true, type := ty, pos := pos, after := aft, guard := g } (.tuple #[zv, .bool false]) := by
  obtain ⟨kind, h1, h2, h3, h4⟩ := hk
  obtain ⟨es, cl, h5, h6⟩ := h
  intro a ha
  rcases findNow_eq h2 key es.toList m 0 h6 with ⟨_, f4⟩ | ⟨j, v', e', f1, f2, f3, f4, f5⟩
  · simp [execOp, ha.eval hx, ha.eval hy, Instr.lookup, run_underlying ht, getMap h5, h3, run_findKey kind h1 f4, hz]
  · rw [hv] at f1; cases f1
theorem Wk.mapPut {v : Value} (ht : P.underlying t = some (.map kt et)) (hk : KeyK P kt mk) (hx : ev k x = some (.map (some b))) (hy : ev k y = some (mk key)) (hz : ev k z = some v) (h : MpG mk w b m) :
    Wk P n k w { dst := none, op := .mapUpdate t x y z, type := ty, pos := pos, after := aft, guard := g } (fun _ w' => Ch (Is b) w w' ∧ w'.heap.size = w.heap.size ∧ MpG mk w' b (mset1 m key v)) := by
  obtain ⟨kind, h1, h2, h3, h4⟩ := hk
  obtain ⟨es, cl, h5, h6⟩ := h
  refine Wk.of_unit fun a ha => ?_
  have hlt := blk_lt h5
  have hch : ∀ o : Obj, Ch (Is b) w { w with heap := w.heap.setIfInBounds b o } := fun o => ⟨rfl, rfl, rfl, by simp, fun q x hq hx => by
    simp only [Array.getElem?_setIfInBounds]
    rw [if_neg (fun e => hq e.symm)]
    exact hx⟩
  rcases findNow_eq h2 key es.toList m 0 h6 with ⟨f1, f4⟩ | ⟨j, v', e', f1, f2, f3, f4, f5⟩
  · refine ⟨_, ?_, hch (.map (es.push { key := mk key, val := v, born := cl }) (cl + 1)), by simp, ⟨es.push { key := mk key, val := v, born := cl }, cl + 1, by simp [hlt], ?_⟩⟩
    · simp [execOp, ha.eval hx, ha.eval hy, ha.eval hz, Instr.mapUpdate, run_underlying ht, getMap h5, h3, run_findKey kind h1 f4, setMap _ h5]
    · have hno : ∀ m : List (κ × Value), mfind m key = none → mset1 m key v = m ++ [(key, v)] := by
        intro m
        induction m with
        | nil => intro _; rfl
        | cons x t ih =>
          intro hf
          simp only [mfind, List.find?_cons] at hf
          cases hx : key == x.1 with
          | true => rw [hx] at hf; simp at hf
          | false =>
            rw [hx] at hf
            simp only [mset1, hx, Bool.false_eq_true, if_false, List.cons_append]
            rw [ih hf]
      rw [hno m f1]
      simp [h6]
  · refine ⟨_, ?_, hch (.map (es.modify j fun e => { e with key := mk key, val := v }) cl), by simp, ⟨es.modify j fun e => { e with key := mk key, val := v }, cl, by simp [hlt], ?_⟩⟩
    · have hkey : ((es[0 + j]?).map (·.key)).getD (mk key) = mk key := by
        rw [Nat.zero_add]
        have : es[j]? = some e' := by simpa using f2
        rw [this]
        simpa using f3
      simp only [Nat.zero_add] at f4 hkey
      simp [execOp, ha.eval hx, ha.eval hy, ha.eval hz, Instr.mapUpdate, run_underlying ht, getMap h5, h3, run_findKey kind h1 f4, Instr.keyThatStays, hkey, h4, setMap _ h5]
    · rw [Array.toList_modify]
      exact f5 v
theorem Wk.makeMap {x : TypeId} : Wk P n k w { dst := d, op := .makeMap x none, type := ty, pos := pos, after := aft, guard := g } (fun v w' => ∃ p, v = .map (some p) ∧ New w w' p (.map #[] 0)) :=
  Rm fun a _ => ⟨_, _, by simp [execOp, run_makeMap], _, rfl, rfl, rfl⟩
end
theorem MpG.new {κ : Type} {mk : κ → Value} {w w' : World} {p : Nat} (h : New w w' p (.map #[] 0)) : MpG mk w' p [] := ⟨#[], 0, h.blk, rfl⟩
end Go.Tm
namespace Go.Tm
set_option maxRecDepth 100000
open Go.RowKit Go.Proofs
structure Chr (w : World) (q mb : Nat) (P : Pol) : Prop where
  ex : ∃ FA fc S, Bk w q #[.int .i64 P.direct, .slice FA P.flies.length fc, .int .i64 P.prime, .map (some mb)] 194 ∧ SlR S w FA P.flies.length 1 (P.flies.map (.int .i64 ·)) ∧ (∀ x, S x → x < mb) ∧ P.flies.length ≤ 100 ∧ mb < q
theorem Chr.to {w w' : World} {q mb : Nat} {P : Pol} (h : Chr w q mb P) {D : Nat → Prop} (c : Ch D w w') (hd : ∀ x, x < w.heap.size → x < mb ∨ x = q → isC w x → ¬ D x := by first | exact fun _ _ _ _ => id | (intro q h1 h2 hx h3; omega)) : Chr w' q mb P := by
  obtain ⟨FA, fc, S, h1, h2, h3, h4, h5⟩ := h
  exact ⟨FA, fc, S, h1.to c (hd q h1.lt (.inr rfl) ⟨_, _, _, h1.blk⟩), h2.to c (fun x hx hs hc => hd x hx (.inl (h3 x hs)) hc), h3, h4, h5⟩
theorem Chr.keep {w w' : World} {q mb : Nat} {P : Pol} (h : Chr w q mb P) (c : Ch No w w') : Chr w' q mb P := h.to c fun _ _ _ _ => id
theorem Chr.toG {B : Nat} {w w' : World} (g : Gn B w w') {q mb : Nat} {P : Pol} (h : Chr w q mb P) : Chr w' q mb P := h.to g fun _ _ _ hx => notC hx
theorem Chr.lt {w : World} {q mb : Nat} {P : Pol} (h : Chr w q mb P) : q < w.heap.size ∧ mb < q := by
  obtain ⟨FA, fc, S, h1, h2, h3, h4, h5⟩ := h
  exact ⟨h1.lt, h5⟩
theorem inf3w6 : Inf Tryz.prog 3 (.int .i64 0) 1 8 := ⟨Tryz.t3, Tryz.type3, rfl, rfl, rfl⟩
theorem inf53w6 : Inf Tryz.prog 53 (.agg #[.int .i64 0, .int .i64 0, .slice none 0 0]) 3 40 := ⟨Tryz.t53, Tryz.type53, rfl, rfl, rfl⟩
theorem bld79_0_1_2w6 {v0 v1 v2 : Value} (h : [v0, v1, v2].all Value.oneCell' = true) (w : World) : (Instr.build 79 ([(0, v0), (1, v1), (2, v2)] : List (Nat × Value)).toArray).run Tryz.prog w = .ok (.agg #[v0, v1, v2]) w := by
  simp only [List.all_cons, Bool.and_eq_true, List.all_nil, and_true] at h
  have hv0 := oneCell_cells (v := v0) (by simp_all)
  have hv1 := oneCell_cells (v := v1) (by simp_all)
  have hv2 := oneCell_cells (v := v2) (by simp_all)
  have h1 := fill_set (fun i => ([(0, 1), (1, 1), (2, 1)] : List (Nat × Nat))[i]?) [(0, v0), (1, v1), (2, v2)] [.int .i64 0, .slice none 0 0, .int .i64 0] (by simp [okF, agg_cells, hv0, hv1, hv2, Nat.beq, Nat.ble])
  simp [setF, agg_cells, hv0, hv1, hv2] at h1
  simp [Instr.build, Tryz.runUnderlying79, Tryz.zeroValue79, ς3, Tryz.sizeOf77, agg_cells, h1]
theorem bld194_0_1w6 {v0_0 v0_1 v0_2 v1 : Value} (h : [v1].all Value.oneCell' = true) (w : World) : (Instr.build 194 ([(0, .agg #[v0_0, v0_1, v0_2]), (1, v1)] : List (Nat × Value)).toArray).run Tryz.prog w = .ok (.agg #[v0_0, v0_1, v0_2, v1]) w := by
  simp only [List.all_cons, Bool.and_eq_true, List.all_nil, and_true] at h
  have hv1 := oneCell_cells (v := v1) (by simp_all)
  have h1 := fill_set (fun i => ([(0, 3), (3, 1)] : List (Nat × Nat))[i]?) [(0, .agg #[v0_0, v0_1, v0_2]), (1, v1)] [.int .i64 0, .slice none 0 0, .int .i64 0, .map none] (by simp [okF, agg_cells, hv1, Nat.beq, Nat.ble])
  simp [setF, agg_cells, hv1] at h1
  simp [Instr.build, Tryz.runUnderlying194, Tryz.zeroValue194, ς79, ς192, agg_cells, h1]
theorem slices_Index (S : Nat → Prop) (xs : List Int) (A : Option Addr) (c : Nat) (x : Int) (w : World) (sl : SlR S w A xs.length 1 (xs.map (.int .i64 ·))) (hl : xs.length ≤ 1000000) :
  Calls Tryz.prog 275 #[.slice A xs.length c, .int .i64 x] w (Ret (fun v w' => (∃ i : Int, v = .int .i64 i ∧ (0 ≤ i ↔ xs.contains x = true)) ∧ w = w')) := by
 refine calls_of_VC (args := [.slice A xs.length c, .int .i64 x]) Tryz.func275 rfl Tryz.ntmps275 rfl (Qe (Qb (Om (Qd rfl) rfl (Qf (Qa (Qe (Qe ?_)))))))
 refine Qb (Om (Qc rfl) rfl (Om (Ra υ77 rfl) rfl (Om (Qc rfl) rfl (Qf (Qa (Qw (Cp (σ := Nat) (fun i => [(0, .slice A xs.length c), (1, .int .i64 x), (7, .int .i64 xs.length), (8, .int .i64 i)]) (fun i w' => w = w' ∧ i ≤ xs.length ∧ (xs.take i).contains x = false) (fun i => xs.length - i) 0 ?_ ⟨rfl, rfl, rfl, rfl, trivial⟩ ?_)))))))
 · exact ⟨rfl, Nat.zero_le _, rfl⟩
 rintro i _ ⟨rfl, i1, hn⟩
 show VC _ _ _ _ [(0, .slice A xs.length c), (1, .int .i64 x), (7, .int .i64 xs.length), (8, .int .i64 i)] _
 refine Qe (Qb (Om (Cs rfl rfl) rfl (Qf (Qa (Qe (Qj rfl (fun hc1 => ?_) (fun hc1 => ?_)))))))
 ·
  refine Qn (Qa (Qe (Qw (Qe ?_))))
  have hxi : xs[i]? = some (xs.getD ((i : Int)).toNat 0) := by rw [Int.toNat_natCast, List.getD, List.getElem?_eq_getElem (by omega)]; rfl
  refine Qb (Om (Qc rfl) rfl (Om (Qd rfl) rfl (Qf (Qa (Qe (Qb (Om (Qc rfl) rfl ?_)))))))
  refine Om (Qc rfl) rfl (Om (Qc rfl) rfl (Om (Cb υ77 ς3 rfl rfl (sl.ne (by omega)) (by omega) (by omega)) rfl (Om (Qh ι3 rfl (sl.get 0 (by omega) (by omega))) rfl (Om (Cm rfl rfl) rfl (Qf (Qa (Qj rfl (fun hc2 => ?_) (fun hc2 => ?_))))))))
  ·
   refine Qe (Qb (Om (Qc rfl) rfl (Om (Qd rfl) rfl (Qf (Qa (Qp (Cd ?_)))))))
   refine Qu (Qu (Cd (Qu (Qy rfl rfl (Ret.mk (⟨⟨_, rfl, ?_⟩, rfl⟩))))))
   have hm := List.mem_of_getElem? hxi
   rw [← hc2] at hm
   simp [hm]
  ·
   refine Qn (Qo (Qa (Qb ?_)))
   refine Om (Ce rfl rfl (by rw [IntKind.wrap_i64]; omega)) rfl ?_
   refine Om (Qc rfl) rfl (Qf ?_)
   refine Ck (i + 1) (by first | omega | (dsimp only; omega)) ?_ ⟨rfl, rfl, rfl, rfl, trivial⟩
   refine ⟨rfl, by omega, ?_⟩
   rw [List.take_add_one, hxi]
   exact contains_snoc hn hc2
 ·
  refine Cr (Qk (Qk (Qz (Qa (Qe (Qb (Om (Qd rfl) rfl ?_)))))))
  refine Qf (Qa (Qp (Qy rfl rfl (Ret.mk (⟨⟨_, rfl, ?_⟩, rfl⟩)))))
  have : i = xs.length := by omega
  subst this; rw [List.take_length] at hn
  rw [hn]; decide
theorem slices_Contains (S : Nat → Prop) (xs : List Int) (A : Option Addr) (c : Nat) (x : Int) (w : World) (sl : SlR S w A xs.length 1 (xs.map (.int .i64 ·))) (hl : xs.length ≤ 1000000) :
  Calls Tryz.prog 244 #[.slice A xs.length c, .int .i64 x] w (Ret (fun v w' => v = .bool (xs.contains x) ∧ w = w')) := by
 refine calls_of_VC (args := [.slice A xs.length c, .int .i64 x]) Tryz.func244 rfl Tryz.ntmps244 rfl (Qe (Qb (Om (Qd rfl) rfl (Qf (Qa (Qe (Qb ?_)))))))
 refine Om (Qc rfl) rfl (Om (Qc rfl) rfl (Oq (Qi Tryz.call275 rfl (slices_Index _ _ _ _ _ _ sl (by omega))) rfl ?_))
 rintro _ _ ⟨⟨ix, rfl, hix⟩, rfl⟩
 refine Om (Wb rfl rfl) rfl (Om (Qd rfl) rfl (Qf (Qa (Qp (Qy rfl rfl (Ret.mk (⟨congrArg _ ?_, rfl⟩)))))))
 rw [Bool.eq_iff_iff]; simpa using hix
theorem chooser_flies (P : Pol) (q mb : Nat) (a : Int) (w : World) (hch : Chr w q mb P) :
  Calls Tryz.prog 189 #[.pointer (some ⟨q, 0, none⟩), .int .i64 a] w (Ret (fun v w' => v = .bool (P.flies.contains a) ∧ w = w')) := by
 obtain ⟨FA, fc, S, bq, sl, hS, hfl, hqm⟩ := hch
 refine calls_of_VC (args := [.pointer (some ⟨q, 0, none⟩), .int .i64 a]) Tryz.func189 rfl Tryz.ntmps189 rfl (Qe (Qb (Om (Qd rfl) rfl (Qf (Qa (Qe (Qb ?_)))))))
 refine Om (Qc rfl) rfl (Om (Ql rfl) rfl (Om (Qg υ194 rfl ς79 rfl rfl rfl) rfl (Om (Qg υ79 rfl Tryz.sizeOf77 rfl rfl rfl) rfl (Om (Qh Tryz.isAgg77 rfl (bq.cell rfl)) rfl (Om (Qc rfl) rfl (Oq (Qi Tryz.call244 rfl (slices_Contains _ _ _ _ _ _ sl (by omega))) rfl ?_))))))
 rintro _ _ ⟨rfl, rfl⟩
 refine Om (Qd rfl) rfl (Qf (Qa (Qp (Qy rfl rfl (Ret.mk ?_)))))
 exact ⟨rfl, rfl⟩
theorem planner_Usual (w : World) :
  Calls Tryz.prog 45 #[] w (Ret (fun v w' => ∃ FA fc, v = .agg #[.int .i64 16, .slice FA 4 fc, .int .i64 13] ∧ SlR (In w.heap.size w'.heap.size) w' FA 4 1 [.int .i64 2, .int .i64 3, .int .i64 4, .int .i64 5] ∧ Ch No w w')) := by
 refine calls_of_VC (args := []) Tryz.func45 rfl Tryz.ntmps45 rfl (Qe (Qb (Oq (Cc Tryz.zeroValue79) rfl ?_)))
 rintro _ w1 ⟨p1, rfl, N1⟩
 have c1 := N1.ch
 have e1 := N1.p; have z1 := N1.size
 have b0 := Bk.new N1
 refine Qf (Qa (Qe (Qb (Oq (Cy υ77 inf3w6 (by decide) rfl rfl (by rfl) (by decide) (by decide) (by rfl)) rfl ?_))))
 rintro _ w2 ⟨p2, rfl, N2⟩
 have c2 := N2.ch
 have e2 := N2.p; have z2 := N2.size
 have l1 := SlR.of_new (sz := 1) (l := 4) N2 rfl
 have l1o := Ow.of_new (sz := 1) (l := 4) N2 rfl (by decide)
 refine Om (Cl rfl (bld79_0_1_2w6 rfl)) rfl ?_
 have b0_2 := b0.keep c2
 refine Oz (Cf ς79 rfl rfl rfl rfl b0_2 (Nat.le_of_ble_eq_true rfl)) rfl ?_
 intro _ w3 Z3
 have c3 := Z3.ch; have z3 := Z3.size
 have b0_3 := Bk.put Z3
 refine Qf (Qa (Qp (Rk rfl rfl ι79 ς79 rfl (b0_3.all' rfl) (Ret.mk ?_))))
 have cc_0_3 : Ch No w w3 := (Ch.then (E := No) (c1.and c2) c3 (by intro q h1 h2; rcases h2 with h2 | h2 <;> first | exact h2 | (exfalso; omega)))
 have CH_3 := (Ch.refl (No) w).and cc_0_3
 have zz := CH_3.size
 have l1_3 := l1.to c3
 exact ⟨_, _, rfl, (l1_3).weak (fun q h => ⟨by omega, by omega⟩), CH_3⟩
theorem planner_Check (P : Pol) (FA : Option Addr) (fc lo hi : Nat) (w : World) (sl : SlR (In lo hi) w FA P.flies.length 1 (P.flies.map (.int .i64 ·))) (hh : hi ≤ w.heap.size) (hp : PolOk P) (hl : P.flies.length ≤ 100) :
  Calls Tryz.prog 125 #[.agg #[.int .i64 P.direct, .slice FA P.flies.length fc, .int .i64 P.prime]] w (Ret (fun v w' => v = .nilIface ∧ Ch No w w')) := by
 obtain ⟨p1, p2, p3, p4, p5⟩ := hp
 refine calls_of_VC (args := [.agg #[.int .i64 P.direct, .slice FA P.flies.length fc, .int .i64 P.prime]]) Tryz.func125 rfl Tryz.ntmps125 rfl (Qe (Qb (Oq (Cj rfl) rfl ?_)))
 rintro _ w1 ⟨p1, rfl, N1⟩
 have c1 := N1.ch
 have e1 := N1.p; have z1 := N1.size
 have b1 := Bk.new N1
 refine Om (Qd rfl) rfl (Qf (Qa (Qe (Qe (Qb (Om (Qg υ79 rfl ς3 rfl rfl rfl) rfl (Om (Qh ι3 rfl (b1.cell rfl)) rfl ?_)))))))
 refine Om (Cs rfl rfl) rfl (Om (Qc rfl) rfl ?_)
 refine Rd (b := _) 4 9 13 rfl (fun hc1 Jhc1 => by
   refine Oy rfl (Oy rfl (Oy rfl (Om (Qt rfl rfl) rfl ?_)))
   exact (Qs rfl (Qs rfl (Qs rfl Jhc1)))) (fun hc1 Jhc1 => by
   try simp only [bX] at hc1
   refine Om (Qg υ79 rfl ς3 rfl rfl rfl) rfl (Om (Qh ι3 rfl (b1.cell rfl)) rfl (Om (Rb rfl rfl) rfl (Om (Qm rfl rfl) rfl ?_)))
   exact (Qs rfl (Qs rfl (Qs rfl Jhc1)))) ?_
 refine Om (Qc rfl) rfl ?_
 refine Rd (b := _) 4 14 18 rfl (fun hc2 Jhc2 => by
   refine Oy rfl (Oy rfl (Oy rfl (Om (Qt rfl rfl) rfl ?_)))
   exact (Qs rfl (Qs rfl (Qs rfl Jhc2)))) (fun hc2 Jhc2 => by
   try simp only [bX] at hc2
   refine Om (Qg υ79 rfl ς3 rfl rfl rfl) rfl (Om (Qh ι3 rfl (b1.cell rfl)) rfl (Om (Cs rfl rfl) rfl (Om (Qm rfl rfl) rfl ?_)))
   exact (Qs rfl (Qs rfl (Qs rfl Jhc2)))) ?_
 refine Om (Qc rfl) rfl ?_
 refine Rd (b := _) 6 19 25 rfl (fun hc3 Jhc3 => by
   refine Oy rfl (Oy rfl (Oy rfl (Oy rfl (Oy rfl (Om (Qt rfl rfl) rfl ?_)))))
   exact (Qs rfl (Qs rfl (Qs rfl (Qs rfl (Qs rfl Jhc3)))))) (fun hc3 Jhc3 => by
   try simp only [bX] at hc3
   refine Om (Qg υ79 rfl ς3 rfl rfl rfl) rfl (Om (Qh ι3 rfl (b1.cell rfl)) rfl (Om (Qg υ79 rfl ς3 rfl rfl rfl) rfl (Om (Qh ι3 rfl (b1.cell rfl)) rfl (Om (Rb rfl rfl) rfl (Om (Qm rfl rfl) rfl ?_)))))
   exact (Qs rfl (Qs rfl (Qs rfl (Qs rfl (Qs rfl Jhc3)))))) ?_
 refine Qf (Qa (Cu rfl (fun hc4 => ?_) (fun hc4 => ?_)))
 ·
  try simp only [bX] at hc4
  omega
 ·
  try simp only [bX] at hc4
  refine Qn (Qa (Qe (Qb (Om (Qd rfl) rfl (Qf (Qa (Qe ?_)))))))
  refine Qe (Qb (Om (Qg υ79 rfl Tryz.sizeOf77 rfl rfl rfl) rfl (Om (Qh Tryz.isAgg77 rfl (b1.cell rfl)) rfl (Om (Ra υ77 rfl) rfl (Om (Qc rfl) rfl (Qf (Qa ?_)))))))
  refine Qw (Cp (σ := Nat) (fun i => [(1, .pointer (some ⟨p1, 0, none⟩)), (3, .int .i64 (if i = 0 then 1 else P.flies.getD (i - 1) 0)), (28, .slice FA P.flies.length fc), (29, .int .i64 P.flies.length), (30, .int .i64 i)]) (fun i w' => w' = w1 ∧ i ≤ P.flies.length) (fun i => P.flies.length - i) 0 ?_ ⟨rfl, rfl, rfl, rfl, rfl, trivial⟩ ?_)
  · exact ⟨rfl, Nat.zero_le _⟩
  rintro i _ ⟨rfl, i1⟩
  show VC _ _ _ _ [(1, .pointer (some ⟨p1, 0, none⟩)), (3, .int .i64 (if i = 0 then 1 else P.flies.getD (i - 1) 0)), (28, .slice FA P.flies.length fc), (29, .int .i64 P.flies.length), (30, .int .i64 i)] _
  refine Qe (Qb (Om (Cs rfl rfl) rfl (Qf (Qa (Qe (Qj rfl (fun hc5 => ?_) (fun hc5 => ?_)))))))
  ·
   refine Qn (Qa (Qe (Qw (Qe ?_))))
   have hxi : P.flies[i]? = some (P.flies.getD ((i : Int)).toNat 0) := by rw [Int.toNat_natCast, List.getD, List.getElem?_eq_getElem (by omega)]; rfl
   have hb := p5 i _ hxi
   refine Qb ?_
   have sl_1 := sl.keep c1
   refine Om (Cb υ77 ς3 rfl rfl (sl_1.ne (by omega)) (by omega) (by omega)) rfl (Om (Qh ι3 rfl (sl_1.get 0 (by omega) (by omega))) rfl (Om (Qd rfl) rfl (Qf (Qa (Qe (Qe (Qb ?_)))))))
   refine Om (Qc rfl) rfl (Om (Qc rfl) rfl (Om (Rv rfl rfl) rfl (Om (Qc rfl) rfl ?_)))
   refine Rd (b := _) 3 37 40 rfl (fun hc6 Jhc6 => by
     refine Oy rfl (Oy rfl (Om (Qt rfl rfl) rfl ?_))
     exact (Qs rfl (Qs rfl Jhc6))) (fun hc6 Jhc6 => by
     try simp only [bX] at hc6
     refine Om (Qc rfl) rfl (Om (Rb rfl rfl) rfl (Om (Qm rfl rfl) rfl ?_))
     exact (Qs rfl (Qs rfl Jhc6))) ?_
   refine Qf (Qa (Cu rfl (fun hc7 => ?_) (fun hc7 => ?_)))
   ·
    try simp only [bX] at hc7
    omega
   ·
    try simp only [bX] at hc7
    refine Qn (Qa (Qb (Om (Qc rfl) rfl (Om (Qd rfl) rfl (Qf (Qo (Qa ?_)))))))
    refine Qb ?_
    refine Om (Ce rfl rfl (by rw [IntKind.wrap_i64]; omega)) rfl ?_
    refine Om (Qc rfl) rfl (Qf ?_)
    refine Ck (i + 1) (by first | omega | (dsimp only; omega)) ?_ ⟨rfl, rfl, rfl, rfl, rfl, trivial⟩
    exact ⟨rfl, by omega⟩
  ·
   refine Cr (Qk (Qk (Qz (Qa (Qe (Qb (Om (Qd rfl) rfl ?_)))))))
   refine Qf (Qa (Qp (Qy rfl rfl (Ret.mk ?_))))
   have CH_1 := (Ch.refl (No) w).and c1
   exact ⟨rfl, CH_1⟩
theorem planner_newChooser (P : Pol) (FA : Option Addr) (fc lo hi : Nat) (w : World) (sl : SlR (In lo hi) w FA P.flies.length 1 (P.flies.map (.int .i64 ·))) (hh : hi ≤ w.heap.size) (hl : P.flies.length ≤ 100) :
  Calls Tryz.prog 126 #[.agg #[.int .i64 P.direct, .slice FA P.flies.length fc, .int .i64 P.prime]] w (Ret (fun v w' => ∃ q mb, v = .pointer (some ⟨q, 0, none⟩) ∧ Chr w' q mb P ∧ MpG (Value.int .i64 ·) w' mb ([] : List (Int × Value)) ∧ w.heap.size ≤ mb ∧ Ch No w w')) := by
 refine calls_of_VC (args := [.agg #[.int .i64 P.direct, .slice FA P.flies.length fc, .int .i64 P.prime]]) Tryz.func126 rfl Tryz.ntmps126 rfl (Qe (Qb (Oq (Cj rfl) rfl ?_)))
 rintro _ w1 ⟨p1, rfl, N1⟩
 have c1 := N1.ch
 have e1 := N1.p; have z1 := N1.size
 have b1 := Bk.new N1
 refine Om (Qd rfl) rfl (Qf (Qa (Qe (Qb (Om (Qr ι79 ς79 rfl rfl (b1.all' rfl)) rfl (Oq (Wk.makeMap) rfl ?_))))))
 rintro _ w2 ⟨p2, rfl, N2⟩
 have c2 := N2.ch
 have e2 := N2.p; have z2 := N2.size
 have m4 := MpG.new (mk := (Value.int .i64 ·)) N2
 refine Om (Cl rfl (bld194_0_1w6 rfl)) rfl (Oq (Cj rfl) rfl ?_)
 rintro _ w3 ⟨p3, rfl, N3⟩
 have c3 := N3.ch
 have e3 := N3.p; have z3 := N3.size
 have b6 := Bk.new N3
 refine Om (Qd rfl) rfl (Qf (Qa (Qp (Qy rfl rfl (Ret.mk ?_)))))
 have sl_3 := sl.keep (c1.trans (c2.trans c3))
 have m4_3 := m4.keep c3
 have CH_3 := (Ch.refl (No) w).and (c1.trans (c2.trans c3))
 exact ⟨_, _, rfl, ⟨_, _, In lo hi, b6, sl_3, fun x h => by omega, hl, by omega⟩, m4_3, by omega, CH_3⟩
theorem chooser_heads (P : Pol) (q mb : Nat) (a : Int) (w : World) (ch : Chr w q mb P) :
  Calls Tryz.prog 154 #[.pointer (some ⟨q, 0, none⟩), .int .i64 a] w (Ret (fun v w' => ∃ A c, v = .slice A (headsM P a).length c ∧ RdK (In w.heap.size w'.heap.size) w' A (headsM P a) ∧ Ch No w w')) := by
 obtain ⟨FA, fc, S, bq, sl, hS, hfl, hqm⟩ := id ch
 refine calls_of_VC (args := [.pointer (some ⟨q, 0, none⟩), .int .i64 a]) Tryz.func154 rfl Tryz.ntmps154 rfl (Qe (Qb (Om (Qd rfl) rfl (Qf (Qa (Qe (Qb ?_)))))))
 refine Om (Qd rfl) rfl (Qf (Qa (Qe (Qe (Qb (Om (Qc rfl) rfl (Om (Qc rfl) rfl ?_)))))))
 refine Om (Ql rfl) rfl (Om (Qg υ194 rfl ς79 rfl rfl rfl) rfl (Om (Qg υ79 rfl ς3 rfl rfl rfl) rfl (Om (Qh ι3 rfl (bq.cell rfl)) rfl (Om (Rv rfl rfl) rfl (Qf (Qa (Qj rfl (fun hc1 => ?_) (fun hc1 => ?_))))))))
 ·
  refine Qb (Om (Qc rfl) rfl (Om (Qc rfl) rfl (Oq (Qi Tryz.call188 rfl (order_Direct _ _)) rfl ?_)))
  rintro _ w1 ⟨rfl, c1⟩
  have z1 := c1.size
  refine Oq (Cy υ51 inf53w6 (by decide) rfl rfl (by rfl) (by decide) (by decide) (by rfl)) rfl ?_
  rintro _ w2 ⟨p2, rfl, N2⟩
  have c2 := N2.ch
  have e2 := N2.p; have z2 := N2.size
  have l16 := SlR.of_new (sz := 3) (l := 1) N2 rfl
  have l16o := Ow.of_new (sz := 3) (l := 1) N2 rfl (by decide)
  refine Oq (Cq (S := _) υ51 inf53w6 rfl (by decide) rfl rfl (Ow.nil _ _ _) l16 (by rfl) (fun h => by simp at h) (by omega) (by simp only [maxLen]; omega)) rfl ?_
  rintro _ w3 ⟨r3, A3, k3, rfl, o3, c3, q3⟩
  have z3 := c3.size
  have y3 := o3.lt
  refine Om (Qd rfl) rfl (Qf (Qa (Qe (Qe (Qb (Om (Qc rfl) rfl (Om (Qc rfl) rfl ?_)))))))
  have ch_2 := ch.keep (c1.trans c2)
  have ch_3 := ch_2.to c3
  refine Oq (Qi Tryz.call189 rfl (chooser_flies _ _ _ _ _ ch_3)) rfl ?_
  rintro _ _ ⟨rfl, rfl⟩
  refine Qf (Qa (Cu rfl (fun hc2 => ?_) (fun hc2 => ?_)))
  ·
   try simp only [bX] at hc2
   refine Qb (Om (Qc rfl) rfl (Om (Qc rfl) rfl (Oq (Qi Tryz.call190 rfl (order_Fly _ _)) rfl ?_)))
   rintro _ w4 ⟨rfl, c4⟩
   have z4 := c4.size
   refine Oq (Cy υ51 inf53w6 (by decide) rfl rfl (by rfl) (by decide) (by decide) (by rfl)) rfl ?_
   rintro _ w5 ⟨p5, rfl, N5⟩
   have c5 := N5.ch
   have e5 := N5.p; have z5 := N5.size
   have l24 := SlR.of_new (sz := 3) (l := 1) N5 rfl
   have l24o := Ow.of_new (sz := 3) (l := 1) N5 rfl (by decide)
   have row_5 := o3.keep (c4.trans c5)
   refine Oq (Cq (S := _) υ51 inf53w6 rfl (by decide) rfl rfl row_5 l24 (by rfl) (fun h => by simp at h) (by omega) (by simp only [maxLen]; omega)) rfl ?_
   rintro _ w6 ⟨r6, A6, k6, rfl, o6, c6, q6⟩
   have z6 := c6.size
   have y6 := o6.lt
   refine Om (Qd rfl) rfl (Qf (Qa (Qe (Qb (Om (Qc rfl) rfl (Om (Qd rfl) rfl (Qf ?_)))))))
   refine Qa (Qp (Qy rfl rfl (Ret.mk ?_)))
   have CH_2 := (Ch.refl (No) w).and (c1.trans c2)
   have CH_3 : Ch (No) w w3 := CH_2.then c3
   have CH_5 := CH_3.and (c4.trans c5)
   have CH_6 : Ch (No) w w6 := CH_5.then c6
   have zz := CH_6.size
   have eh : headsM P a = [.mk 1 a [], .mk 2 a []] := by unfold headsM; rw [if_pos hc1, if_pos hc2]; rfl
   have y9 := o6.lt
   exact ⟨_, _, by rw [eh]; rfl, by rw [eh]; exact ((((KidRow.nil _ _).snoc (o := .mk 1 a []) rfl (RdK.nil _ _)).snoc (o := .mk 2 a []) rfl (RdK.nil _ _))).rd (o6.sl.weak (fun q h => ⟨by omega, by omega⟩)) (by simp), CH_6⟩
  ·
   try simp only [bX] at hc2
   refine Qn (Qa (Qe (Qb (Om (Qc rfl) rfl (Om (Qd rfl) rfl (Qf (Qa ?_)))))))
   refine Qp (Qy rfl rfl (Ret.mk ?_))
   have CH_2 := (Ch.refl (No) w).and (c1.trans c2)
   have CH_3 : Ch (No) w w3 := CH_2.then c3
   have zz := CH_3.size
   have eh : headsM P a = [.mk 1 a []] := by unfold headsM; rw [if_pos hc1, if_neg (by rw [hc2]; simp)]; rfl
   have y9 := o3.lt
   exact ⟨_, _, by rw [eh]; rfl, by rw [eh]; exact (((KidRow.nil _ _).snoc (o := .mk 1 a []) rfl (RdK.nil _ _))).rd (o3.sl.weak (fun q h => ⟨by omega, by omega⟩)) (by simp), CH_3⟩
 ·
  refine Qn (Qa (Qe (Qe (Qb (Om (Qc rfl) rfl (Om (Qc rfl) rfl (Oq (Qi Tryz.call189 rfl (chooser_flies _ _ _ _ _ ch)) rfl ?_)))))))
  rintro _ _ ⟨rfl, rfl⟩
  refine Qf (Qa (Cu rfl (fun hc3 => ?_) (fun hc3 => ?_)))
  ·
   try simp only [bX] at hc3
   refine Qb (Om (Qc rfl) rfl (Om (Qc rfl) rfl (Oq (Qi Tryz.call190 rfl (order_Fly _ _)) rfl ?_)))
   rintro _ w7 ⟨rfl, c7⟩
   have z7 := c7.size
   refine Oq (Cy υ51 inf53w6 (by decide) rfl rfl (by rfl) (by decide) (by decide) (by rfl)) rfl ?_
   rintro _ w8 ⟨p8, rfl, N8⟩
   have c8 := N8.ch
   have e8 := N8.p; have z8 := N8.size
   have l24 := SlR.of_new (sz := 3) (l := 1) N8 rfl
   have l24o := Ow.of_new (sz := 3) (l := 1) N8 rfl (by decide)
   refine Oq (Cq (S := _) υ51 inf53w6 rfl (by decide) rfl rfl (Ow.nil _ _ _) l24 (by rfl) (fun h => by simp at h) (by omega) (by simp only [maxLen]; omega)) rfl ?_
   rintro _ w9 ⟨r9, A9, k9, rfl, o9, c9, q9⟩
   have z9 := c9.size
   have y9 := o9.lt
   refine Om (Qd rfl) rfl (Qf (Qa (Qe (Qb (Om (Qc rfl) rfl (Om (Qd rfl) rfl (Qf ?_)))))))
   refine Qa (Qp (Qy rfl rfl (Ret.mk ?_)))
   have CH_8 := (Ch.refl (No) w).and (c7.trans c8)
   have CH_9 : Ch (No) w w9 := CH_8.then c9
   have zz := CH_9.size
   have eh : headsM P a = [.mk 2 a []] := by unfold headsM; rw [if_neg hc1, if_pos hc3]; rfl
   have y9 := o9.lt
   exact ⟨_, _, by rw [eh]; rfl, by rw [eh]; exact (((KidRow.nil _ _).snoc (o := .mk 2 a []) rfl (RdK.nil _ _))).rd (o9.sl.weak (fun q h => ⟨by omega, by omega⟩)) (by simp), CH_9⟩
  ·
   try simp only [bX] at hc3
   refine Qn (Qa (Qe (Qb (Om (Qc rfl) rfl (Om (Qd rfl) rfl (Qf (Qa ?_)))))))
   refine Qp (Qy rfl rfl (Ret.mk ?_))
   have zz := (Ch.refl (No) w).size
   have eh : headsM P a = [] := by unfold headsM; rw [if_neg hc1, if_neg (by rw [hc3]; simp)]; rfl
   exact ⟨_, _, by rw [eh]; rfl, by rw [eh]; exact RdK.nil _ _, (Ch.refl (No) w)⟩
theorem primes_Factors (n0 : Int) (w : World) (h1 : 1 ≤ n0) (h2 : n0 ≤ 16384) :
  Calls Tryz.prog 196 #[.int .i64 n0] w (Ret (fun v w' => ∃ A c, v = .slice A (facs n0).length c ∧ SlR (In w.heap.size w'.heap.size) w' A (facs n0).length 1 ((facs n0).map (.int .i64 ·)) ∧ (facs n0).length ≤ 2000 ∧ Ch No w w')) := by
 refine calls_of_VC (args := [.int .i64 n0]) Tryz.func196 rfl Tryz.ntmps196 rfl (Qe (Qb (Om (Qd rfl) rfl (Qf (Qa (Qe (Qb ?_)))))))
 refine Om (Qd rfl) rfl (Qf (Qa (Qe (Qe (Qb (Om (Qc rfl) rfl (Om (Cs rfl rfl) rfl ?_)))))))
 refine Om (Qc rfl) rfl ?_
 refine Rd (b := _) 3 7 10 rfl (fun hc1 Jhc1 => by
   refine Oy rfl (Oy rfl (Om (Qt rfl rfl) rfl ?_))
   exact (Qs rfl (Qs rfl Jhc1))) (fun hc1 Jhc1 => by
   try simp only [bX] at hc1
   refine Om (Qc rfl) rfl (Om (Rb rfl rfl) rfl (Om (Qm rfl rfl) rfl ?_))
   exact (Qs rfl (Qs rfl Jhc1))) ?_
 refine Qf (Qa (Cu rfl (fun hc2 => ?_) (fun hc2 => ?_)))
 ·
  try simp only [bX] at hc2
  refine Qe (Qb (Om (Qc rfl) rfl (Om (Qd rfl) rfl (Qf (Qa (Qp (Qu ?_)))))))
  refine Qy rfl rfl (Ret.mk ?_)
  have e1 : n0 = 1 := by omega
  subst e1
  exact ⟨none, 0, rfl, SlR.nil _ _ _, by decide, (Ch.refl (No) w)⟩
 ·
  try simp only [bX] at hc2
  refine Qn (Qa (Qe (Qe (Qb (Om (Qd rfl) rfl (Qf (Qa ?_)))))))
  refine Qw (Cp (σ := Nat × Int × Int × List Int × Option Addr × Nat × Nat) (fun (f, n, p, out, A, L, c) => [(0, .int .i64 n), (3, .slice A L c), (4, .int .i64 p)]) (fun (f, n, p, out, A, L, c) w' => facs n0 = facO f n p out ∧ 1 ≤ n ∧ n ≤ 16384 ∧ 2 ≤ p ∧ p ≤ 129 ∧ 131 ≤ f + p ∧ out.length = L ∧ (L : Int) ≤ 15 * (p - 2) ∧ (∃ r, Ow w' r 3 1 A L c (out.map (.int .i64 ·)) ∧ (r = 0 ∨ w.heap.size < r)) ∧ Ch No w w') (fun (f, n, p, out, A, L, c) => f) (200, n0, 2, [], none, 0, 0) ?_ ⟨rfl, rfl, rfl, trivial⟩ ?_)
  · exact ⟨rfl, h1, h2, by omega, by omega, by omega, rfl, by simp, ⟨0, Ow.nil _ _ _, .inl rfl⟩, (Ch.refl (No) w)⟩
  rintro ⟨f, n, p, out, A, L, c⟩ w1 ⟨he, n1, n2, p1, p2, hf, hL, hl, ⟨r, row_1, hr⟩, CH_1⟩
  show VC _ _ _ _ [(0, .int .i64 n), (3, .slice A L c), (4, .int .i64 p)] _
  have hq := sq_le (c := p) (by omega) (by omega); have zc := CH_1.size
  obtain ⟨f, rfl⟩ : ∃ g, f = g + 1 := ⟨f - 1, by omega⟩
  refine Qe (Qe (Qb (Om (Qc rfl) rfl (Om (Qc rfl) rfl ?_))))
  refine Om (Cv rfl rfl (by rw [IntKind.wrap_i64]; omega)) rfl ?_
  refine Om (Qc rfl) rfl (Om (Rv rfl rfl) rfl (Qf (Qa (Qj rfl (fun hc3 => ?_) (fun hc3 => ?_)))))
  ·
   refine Qn (Qa (Qe (Qw (Qw (Cp (σ := Nat × Int × List Int × Option Addr × Nat × Nat) (fun (g, m, out2, A2, L2, c2) => [(0, .int .i64 m), (3, .slice A2 L2 c2), (4, .int .i64 p)]) (fun (g, m, out2, A2, L2, c2) w' => divO 15 n p out = divO g m p out2 ∧ 1 ≤ m ∧ m ≤ n ∧ m < 2 ^ g ∧ out2.length = L2 ∧ (L2 : Int) ≤ 15 * (p - 2) + (15 - g) ∧ g ≤ 15 ∧ (∃ r, Ow w' r 3 1 A2 L2 c2 (out2.map (.int .i64 ·)) ∧ (r = 0 ∨ w.heap.size < r)) ∧ Ch No w w') (fun (g, m, out2, A2, L2, c2) => g) (15, n, out, A, L, c) ?_ ⟨rfl, rfl, rfl, trivial⟩ ?_)))))
   · exact ⟨rfl, n1, by omega, by omega, hL, by omega, by omega, ⟨_, row_1, hr⟩, CH_1⟩
   rintro ⟨g, m, out2, A2, L2, c2⟩ w2 ⟨hg, m1, m2, m3, hL2, hl2, hg15, ⟨r2, row_2, hr2⟩, CH_2⟩
   show VC _ _ _ _ [(0, .int .i64 m), (3, .slice A2 L2 c2), (4, .int .i64 p)] _
   have y2 := row_2.lt; have zz := CH_2.size
   refine Qe (Qe (Qb (Om (Qc rfl) rfl (Om (Qc rfl) rfl (Om (Rs rfl rfl (by omega) (by omega)) rfl (Om (Cm rfl rfl) rfl (Qf ?_)))))))
   refine Qa (Qj rfl (fun hc4 => ?_) (fun hc4 => ?_))
   ·
    refine Qn (Qa (Qw (Qe ?_)))
    obtain ⟨g, rfl⟩ := g_pos m1 m3
    have dh := div_half (m := 2 ^ g) p1 m1 hc4 (by rw [Int.pow_succ] at m3; omega)
    refine Qb (Om (Qc rfl) rfl (Om (Qc rfl) rfl (Oq (Cy υ77 inf3w6 (by decide) rfl rfl (by rfl) (by decide) (by decide) (by rfl)) rfl ?_)))
    rintro _ w3 ⟨p3, rfl, N3⟩
    have c3 := N3.ch
    have e3 := N3.p; have z3 := N3.size
    have l25 := SlR.of_new (sz := 1) (l := 1) N3 rfl
    have l25o := Ow.of_new (sz := 1) (l := 1) N3 rfl (by decide)
    have row_3 := row_2.keep c3
    refine Oq (Cq (S := _) υ77 inf3w6 rfl (by decide) rfl rfl row_3 l25 (by rfl) (fun h => by simp at h) (by omega) (by simp only [maxLen]; omega)) rfl ?_
    rintro _ w4 ⟨r4, A4, k4, rfl, o4, c4, q4⟩
    have z4 := c4.size
    have y4 := o4.lt
    refine Om (Qd rfl) rfl (Qf (Qa (Qb (Om (Qc rfl) rfl (Om (Qc rfl) rfl (Om (Rn.quo0 rfl rfl (by omega) (by omega) (by omega)) rfl (Om (Qd rfl) rfl ?_)))))))
    refine Qf (Qo ?_)
    refine Ck (g, m / p, out2 ++ [p], A4, L2 + 1, k4) (by first | omega | (dsimp only; omega)) ?_ ⟨rfl, rfl, rfl, trivial⟩
    have CH_3 := CH_2.and c3
    have CH_4 : Ch (No) w w4 := CH_3.then c4
    refine ⟨?_, by omega, by omega, by omega, by simp [hL2], by omega, by omega, ⟨_, by simpa [flat, Value.cells] using o4, by omega⟩, CH_4⟩
    rw [hg, divO, if_pos hc4]
   ·
    refine Cr (Qk (Qk (Qz (Qo (Qa (Qb (Om (Qc rfl) rfl ?_)))))))
    refine Om (Ce rfl rfl (by rw [IntKind.wrap_i64]; omega)) rfl ?_
    refine Om (Qd rfl) rfl (Qf ?_)
    refine Ck (f, m, p + 1, out2, A2, L2, c2) (by first | omega | (dsimp only; omega)) ?_ ⟨rfl, rfl, rfl, trivial⟩
    have hp9 : p ≤ 128 := by rcases Int.lt_or_le 128 p with h | h; (have := sq_mono (p := 129) (q := p) (by omega) (by omega); omega); exact h
    refine ⟨?_, by omega, by omega, by omega, by omega, by omega, hL2, by omega, ⟨_, row_2, by omega⟩, CH_2⟩
    rw [he, facO, if_pos hc3, hg, divO_stop hc4]
  ·
   refine Cr (Qk (Qk (Qz (Qa (Qe (Qe (Qb ?_)))))))
   refine Om (Qc rfl) rfl (Om (Rb rfl rfl) rfl (Qf (Qa (Qj rfl (fun hc5 => ?_) (fun hc5 => ?_)))))
   ·
    refine Qb (Om (Qc rfl) rfl (Om (Qc rfl) rfl (Oq (Cy υ77 inf3w6 (by decide) rfl rfl (by rfl) (by decide) (by decide) (by rfl)) rfl ?_)))
    rintro _ w5 ⟨p5, rfl, N5⟩
    have c5 := N5.ch
    have e5 := N5.p; have z5 := N5.size
    have l34 := SlR.of_new (sz := 1) (l := 1) N5 rfl
    have l34o := Ow.of_new (sz := 1) (l := 1) N5 rfl (by decide)
    have row_5 := row_1.keep c5
    refine Oq (Cq (S := _) υ77 inf3w6 rfl (by decide) rfl rfl row_5 l34 (by rfl) (fun h => by simp at h) (by omega) (by simp only [maxLen]; omega)) rfl ?_
    rintro _ w6 ⟨r6, A6, k6, rfl, o6, c6, q6⟩
    have z6 := c6.size
    have y6 := o6.lt
    refine Om (Qd rfl) rfl (Qf (Qa (Qe (Qb (Om (Qc rfl) rfl (Om (Qd rfl) rfl (Qf ?_)))))))
    refine Qa (Qp (Qy rfl rfl (Ret.mk ?_)))
    have CH_5 := CH_1.and c5
    have CH_6 : Ch (No) w w6 := CH_5.then c6
    have zz := CH_6.size; have y9 := o6.lt
    have ef : facs n0 = out ++ [n] := by rw [he, facO, if_neg hc3, if_pos hc5]
    rw [ef]
    refine ⟨A6, k6, by simp [hL], ?_, by simp; omega, CH_6⟩
    have h9 := o6.sl.weak (S' := In w.heap.size w6.heap.size) (fun q h => ⟨by omega, by omega⟩)
    simpa [hL, flat, Value.cells] using h9
   ·
    refine Qn (Qa (Qe (Qb (Om (Qc rfl) rfl (Om (Qd rfl) rfl (Qf (Qa ?_)))))))
    refine Qp (Qy rfl rfl (Ret.mk ?_))
    have zz := CH_1.size; have y9 := row_1.lt
    have ef : facs n0 = out := by rw [he, facO, if_neg hc3, if_neg hc5]
    rw [ef]
    refine ⟨_, _, by rw [hL], ?_, by omega, CH_1⟩
    have h9 := row_1.sl.weak (S' := In w.heap.size w1.heap.size) (fun q h => ⟨by omega, by omega⟩)
    rw [hL]; exact h9
end Go.Tm
namespace Go.Tm
set_option maxRecDepth 100000
open Go.RowKit Go.Proofs
abbrev pricedC (r : Ord × Int) (A : Option Addr) (c : Nat) : Array Value := #[.int .i64 r.1.kind, .int .i64 r.1.n, .slice A r.1.kids.length c, .int .i64 r.2]
theorem bld149_0_1w7 {v0_0 v0_1 v0_2 v1 : Value} (h : [v1].all Value.oneCell' = true) (w : World) : (Instr.build 149 ([(0, .agg #[v0_0, v0_1, v0_2]), (1, v1)] : List (Nat × Value)).toArray).run Tryz.prog w = .ok (.agg #[v0_0, v0_1, v0_2, v1]) w := by
  simp only [List.all_cons, Bool.and_eq_true, List.all_nil, and_true] at h
  have hv1 := oneCell_cells (v := v1) (by simp_all)
  have h1 := fill_set (fun i => ([(0, 3), (3, 1)] : List (Nat × Nat))[i]?) [(0, .agg #[v0_0, v0_1, v0_2]), (1, v1)] [.int .i64 0, .int .i64 0, .slice none 0 0, .int .i64 0] (by simp [okF, agg_cells, hv1, Nat.beq, Nat.ble])
  simp [setF, agg_cells, hv1] at h1
  simp [Instr.build, Tryz.runUnderlying149, ζ149, ς3, ς53, agg_cells, h1]
theorem chooser_hard (P : Pol) (q mb : Nat) (a : Int) (w : World) (ch : Chr w q mb P) (h1 : 1 ≤ a) (h2 : a ≤ 16384) :
  Calls Tryz.prog 159 #[.pointer (some ⟨q, 0, none⟩), .int .i64 a] w (Ret (fun v w' => v = .bool (hardM P (facs a) a) ∧ Ch No w w')) := by
 have lq := ch.lt
 obtain ⟨FA, fc, S, bq, sl, hS, hfl, hqm⟩ := id ch
 refine calls_of_VC (args := [.pointer (some ⟨q, 0, none⟩), .int .i64 a]) Tryz.func159 rfl Tryz.ntmps159 rfl (Qe (Qb (Om (Qd rfl) rfl (Qf (Qa (Qe (Qe ?_)))))))
 refine Qb (Om (Qc rfl) rfl (Oq (Qi Tryz.call196 rfl (primes_Factors _ _ (by omega) (by omega))) rfl ?_))
 rintro _ w1 ⟨fA1, fk1, rfl, fs1, fl1, c1⟩
 have z1 := c1.size
 refine Om (Ra υ77 rfl) rfl (Om (Qc rfl) rfl (Qf (Qa (Qw (Cp (σ := Nat) (fun i => [(0, .pointer (some ⟨q, 0, none⟩)), (1, .int .i64 a), (8, .slice fA1 (facs a).length fk1), (9, .int .i64 (facs a).length), (10, .int .i64 i)]) (fun i w' => w' = w1 ∧ i ≤ (facs a).length ∧ ((facs a).take i).any (fun q => decide (q > P.prime)) = false) (fun i => (facs a).length - i) 0 ?_ ⟨rfl, rfl, rfl, rfl, rfl, trivial⟩ ?_)))))
 · exact ⟨rfl, Nat.zero_le _, rfl⟩
 rintro i _ ⟨rfl, i1, hn⟩
 show VC _ _ _ _ [(0, .pointer (some ⟨q, 0, none⟩)), (1, .int .i64 a), (8, .slice fA1 (facs a).length fk1), (9, .int .i64 (facs a).length), (10, .int .i64 i)] _
 refine Qe (Qb (Om (Cs rfl rfl) rfl (Qf (Qa (Qe (Qj rfl (fun hc1 => ?_) (fun hc1 => ?_)))))))
 ·
  refine Qn (Qa (Qe (Qw (Qe ?_))))
  have hxi : (facs a)[i]? = some ((facs a).getD ((i : Int)).toNat 0) := by rw [Int.toNat_natCast, List.getD, List.getElem?_eq_getElem (by omega)]; rfl
  refine Qb (Om (Cb υ77 ς3 rfl rfl (fs1.ne (by omega)) (by omega) (by omega)) rfl (Om (Qh ι3 rfl (fs1.get 0 (by omega) (by omega))) rfl (Om (Qd rfl) rfl (Qf (Qa (Qe (Qb ?_)))))))
  refine Om (Qc rfl) rfl (Om (Qc rfl) rfl (Om (Ql rfl) rfl (Om (Qg υ194 rfl ς79 rfl rfl rfl) rfl (Om (Qg υ79 rfl ς3 rfl rfl rfl) rfl ?_))))
  have bq_1 := bq.keep c1
  refine Om (Qh ι3 rfl (bq_1.cell rfl)) rfl (Om (Rb rfl rfl) rfl (Qf (Qa (Qj rfl (fun hc2 => ?_) (fun hc2 => ?_)))))
  ·
   refine Qe (Qb (Om (Qc rfl) rfl (Om (Rv rfl rfl) rfl (Om (Qd rfl) rfl (Qf (Qa (Qp ?_)))))))
   refine Cd (Qu (Qu (Cd (Qu (Qy rfl rfl (Ret.mk ?_))))))
   have CH_1 := (Ch.refl (No) w).and c1
   refine ⟨?_, CH_1⟩
   have hm : (facs a).any (fun q => decide (q > P.prime)) = true := List.any_eq_true.2 ⟨_, List.mem_of_getElem? hxi, by simpa using hc2⟩
   unfold hardM; rw [hm]; rfl
  ·
   refine Qn (Qo (Qa (Qb ?_)))
   refine Om (Ce rfl rfl (by rw [IntKind.wrap_i64]; omega)) rfl ?_
   refine Om (Qc rfl) rfl (Qf ?_)
   refine Ck (i + 1) (by first | omega | (dsimp only; omega)) ?_ ⟨rfl, rfl, rfl, rfl, rfl, trivial⟩
   refine ⟨rfl, by omega, ?_⟩
   rw [List.take_add_one, hxi, List.any_append, hn]
   simpa using Int.not_lt.1 hc2
 ·
  refine Cr (Qk (Qk (Qz (Qa (Qe (Qb (Om (Qd rfl) rfl ?_)))))))
  refine Qf (Qa (Qp (Qy rfl rfl (Ret.mk ?_))))
  have CH_1 := (Ch.refl (No) w).and c1
  refine ⟨?_, CH_1⟩
  have : i = (facs a).length := by omega
  subst this; rw [List.take_length] at hn
  unfold hardM; rw [hn]; rfl
theorem fine_two (a : Int) (w : World) (h1 : 1 ≤ a) (h2 : a ≤ 1073741824) :
  Calls Tryz.prog 246 #[.int .i64 a, .int .i64 2] w (Ret (fun v w' => (∃ b, v = .bool b ∧ (b = true ↔ ∃ j : Nat, a = 2 ^ j)) ∧ w = w')) := by
 refine calls_of_VC (args := [.int .i64 a, .int .i64 2]) Tryz.func246 rfl Tryz.ntmps246 rfl (Qe (Qb (Om (Qd rfl) rfl (Qf (Qa (Qe (Qe ?_)))))))
 refine Qb (Om (Qd rfl) rfl (Qf (Qa (Qw (Cp (σ := Int × Int) (fun (p, n) => [(0, .int .i64 n), (1, .int .i64 2), (5, .int .i64 p)]) (fun (p, n) w' => w = w' ∧ 1 ≤ n ∧ n ≤ a ∧ (∃ j : Nat, a = n * 2 ^ j) ∧ (p = 2 ∧ n = a ∨ p = 3 ∧ n % 2 = 1)) (fun (p, n) => (3 - p).toNat) (2, a) ?_ ⟨rfl, rfl, rfl, trivial⟩ ?_)))))
 · exact ⟨rfl, h1, Int.le_refl _, ⟨0, by simp⟩, .inl ⟨rfl, rfl⟩⟩
 rintro ⟨p, n⟩ _ ⟨rfl, n1, n2, n3, n4⟩
 show VC _ _ _ _ [(0, .int .i64 n), (1, .int .i64 2), (5, .int .i64 p)] _
 have p1 : 2 ≤ p ∧ p ≤ 3 := by omega
 have pp : p = 2 ∧ p * p = 4 ∨ p = 3 ∧ p * p = 9 := by rcases n4 with ⟨rfl, _⟩ | ⟨rfl, _⟩ <;> simp
 refine Qe (Qe (Qb (Om (Qc rfl) rfl (Om (Qc rfl) rfl (Om (Rv rfl rfl) rfl (Om (Qc rfl) rfl ?_))))))
 refine Rc (b := _) 6 9 15 rfl (fun hc1 Jhc1 => by
   try simp only [bX] at hc1
   refine Om (Qc rfl) rfl (Om (Qc rfl) rfl ?_)
   refine Om (Cv rfl rfl (by rw [IntKind.wrap_i64]; omega)) rfl ?_
   refine Om (Qc rfl) rfl (Om (Rv rfl rfl) rfl (Om (Qt rfl rfl) rfl ?_))
   exact (Qs rfl (Qs rfl (Qs rfl (Qs rfl (Qs rfl Jhc1)))))) (fun hc1 Jhc1 => by
   refine Oy rfl (Oy rfl (Oy rfl (Oy rfl (Oy rfl (Om (Qm rfl rfl) rfl ?_)))))
   exact (Qs rfl (Qs rfl (Qs rfl (Qs rfl (Qs rfl Jhc1)))))) ?_
 refine Qf (Qa (Cu rfl (fun hc2 => ?_) (fun hc2 => ?_)))
 ·
  try simp only [bX] at hc2
  refine Qn (Qa (Qe (Qw (Qw (Cp (σ := Int) (fun m => [(0, .int .i64 m), (1, .int .i64 2), (5, .int .i64 p)]) (fun m w' => w = w' ∧ 1 ≤ m ∧ m ≤ a ∧ (∃ j : Nat, a = m * 2 ^ j)) (fun m => m.toNat) n ?_ ⟨rfl, rfl, rfl, trivial⟩ ?_)))))
  · exact ⟨rfl, n1, n2, n3⟩
  rintro m _ ⟨rfl, m1, m2, m3⟩
  show VC _ _ _ _ [(0, .int .i64 m), (1, .int .i64 2), (5, .int .i64 p)] _
  have e : p = 2 := by omega
  refine Qe (Qe (Qb (Om (Qc rfl) rfl (Om (Qc rfl) rfl (Om (Rs rfl rfl (by omega) (by omega)) rfl (Om (Cm rfl rfl) rfl (Qf ?_)))))))
  refine Qa (Qj rfl (fun hc3 => ?_) (fun hc3 => ?_))
  ·
   refine Qn (Qa (Qw (Qb (Om (Qc rfl) rfl (Om (Qc rfl) rfl (Om (Rn.quo0 rfl rfl (by omega) (by omega) (by omega)) rfl (Om (Qd rfl) rfl ?_)))))))
   refine Qf (Qo ?_)
   refine Ck (m / p) (by first | (rw [e]; omega) | (dsimp only; rw [e]; omega)) ?_ ⟨rfl, rfl, rfl, trivial⟩
   rw [e] at hc3 ⊢
   exact ⟨rfl, by omega, by omega, half_pow m3 hc3⟩
  ·
   refine Cr (Qk (Qk (Qz (Qo (Qa (Qb (Om (Qc rfl) rfl ?_)))))))
   refine Om (Ce rfl rfl (by rw [IntKind.wrap_i64]; omega)) rfl ?_
   refine Om (Qd rfl) rfl (Qf ?_)
   refine Ck (p + 1, m) (by first | omega | (dsimp only; omega)) ?_ ⟨rfl, rfl, rfl, trivial⟩
   exact ⟨rfl, m1, m2, m3, .inr ⟨by omega, by rw [e] at hc3; omega⟩⟩
 ·
  try simp only [bX] at hc2
  refine Cr (Qk (Qk (Qz (Qa (Qe (Qb (Om (Qc rfl) rfl ?_)))))))
  refine Om (Qc rfl) rfl (Om (Rv rfl rfl) rfl (Om (Qd rfl) rfl (Qf (Qa (Qp (Qy rfl rfl (Ret.mk ?_)))))))
  exact ⟨⟨_, rfl, fine_end n1 n2 n3 (by omega)⟩, rfl⟩
theorem primes_Smooth (a : Int) (w : World) (h1 : 1 ≤ a) (h2 : a ≤ 1048576) :
  Calls Tryz.prog 197 #[.int .i64 a, .int .i64 2] w (Ret (fun v w' => v = .tuple #[.int .i64 (up2 a), .nilIface] ∧ w = w')) := by
 have hu := up2_spec h1 (by omega)
 have hu2 := up2_le (j := 20) h1 (by omega) (by omega)
 simp only [Int.reducePow] at hu2
 refine calls_of_VC (args := [.int .i64 a, .int .i64 2]) Tryz.func197 rfl Tryz.ntmps197 rfl (Qe (Qb (Om (Qd rfl) rfl (Om (Qd rfl) rfl (Qf (Qa (Qe ?_)))))))
 refine Qe (Qb (Om (Qc rfl) rfl (Om (Cs rfl rfl) rfl (Om (Qc rfl) rfl ?_))))
 refine Rd (b := _) 3 8 11 rfl (fun hc1 Jhc1 => by
   refine Oy rfl (Oy rfl (Om (Qt rfl rfl) rfl ?_))
   exact (Qs rfl (Qs rfl Jhc1))) (fun hc1 Jhc1 => by
   try simp only [bX] at hc1
   refine Om (Qc rfl) rfl (Om (Rb rfl rfl) rfl (Om (Qm rfl rfl) rfl ?_))
   exact (Qs rfl (Qs rfl Jhc1))) ?_
 refine Om (Qc rfl) rfl ?_
 refine Rd (b := _) 3 12 15 rfl (fun hc2 Jhc2 => by
   refine Oy rfl (Oy rfl (Om (Qt rfl rfl) rfl ?_))
   exact (Qs rfl (Qs rfl Jhc2))) (fun hc2 Jhc2 => by
   try simp only [bX] at hc2
   refine Om (Qc rfl) rfl (Om (Cs rfl rfl) rfl (Om (Qm rfl rfl) rfl ?_))
   exact (Qs rfl (Qs rfl Jhc2))) ?_
 refine Qf (Qa (Cu rfl (fun hc3 => ?_) (fun hc3 => ?_)))
 ·
  try simp only [bX] at hc3
  omega
 ·
  try simp only [bX] at hc3
  refine Qn (Qa (Qe (Qw (Cp (σ := Int) (fun x => [(0, .int .i64 x), (1, .int .i64 2)]) (fun x w' => w = w' ∧ a ≤ x ∧ x ≤ up2 a) (fun x => (up2 a - x).toNat) a ?_ ⟨rfl, rfl, trivial⟩ ?_))))
  · exact ⟨rfl, Int.le_refl _, hu.2.1⟩
  rintro x _ ⟨rfl, x1, x2⟩
  show VC _ _ _ _ [(0, .int .i64 x), (1, .int .i64 2)] _
  refine Qe (Qe (Qb (Om (Qc rfl) rfl (Om (Qc rfl) rfl (Oq (Qi Tryz.call246 rfl (fine_two _ _ (by omega) (by omega))) rfl ?_)))))
  rintro _ _ ⟨⟨fb, rfl, hfb⟩, rfl⟩
  refine Om (Ro rfl) rfl (Qf (Qa (Cu rfl (fun hc4 => ?_) (fun hc4 => ?_))))
  ·
   try simp only [bX] at hc4
   refine Qn (Qa (Qw (Qb (Om (Qc rfl) rfl ?_))))
   refine Om (Ce rfl rfl (by rw [IntKind.wrap_i64]; omega)) rfl ?_
   refine Om (Qd rfl) rfl (Qf (Qo ?_))
   refine Ck (x + 1) (by have hne : x ≠ up2 a := fun e => (by rw [e] at hfb; have := hfb.2 hu.1; simp [this] at hc4) ; omega) ?_ ⟨rfl, rfl, trivial⟩
   have hne : x ≠ up2 a := fun e => (by rw [e] at hfb; have := hfb.2 hu.1; simp [this] at hc4)
   exact ⟨rfl, by omega, by omega⟩
  ·
   try simp only [bX] at hc4
   refine Cr (Qk (Qk (Qz (Qa (Qe (Qb (Om (Qc rfl) rfl ?_)))))))
   refine Om (Qd rfl) rfl (Om (Qd rfl) rfl (Qf (Qa (Qp (Cz rfl rfl rfl (Ret.mk (⟨?_, rfl⟩)))))))
   have hb : fb = true := by simpa using hc4
   obtain ⟨j, hj⟩ := hfb.1 hb
   have := hu.2.2 j (by omega)
   have e : x = up2 a := by omega
   rw [e]
theorem chirp_Size (a : Int) (w : World) (h1 : 1 ≤ a) (h2 : a ≤ 8192) :
  Calls Tryz.prog 160 #[.int .i64 a] w (Ret (fun v w' => v = .tuple #[.int .i64 (up2 (2 * a - 1)), .nilIface] ∧ w = w')) := by
 have hu2 := up2_le (x := 2 * a - 1) (j := 14) (by omega) (by omega) (by omega)
 simp only [Int.reducePow] at hu2
 refine calls_of_VC (args := [.int .i64 a]) Tryz.func160 rfl Tryz.ntmps160 rfl (Qe (Qb (Om (Qd rfl) rfl (Om (Qd rfl) rfl (Qf (Qa (Qe ?_)))))))
 refine Qe (Qb (Om (Qc rfl) rfl (Om (Cs rfl rfl) rfl (Om (Qc rfl) rfl ?_))))
 refine Rd (b := _) 3 8 11 rfl (fun hc1 Jhc1 => by
   refine Oy rfl (Oy rfl (Om (Qt rfl rfl) rfl ?_))
   exact (Qs rfl (Qs rfl Jhc1))) (fun hc1 Jhc1 => by
   try simp only [bX] at hc1
   refine Om (Qc rfl) rfl (Om (Rb rfl rfl) rfl (Om (Qm rfl rfl) rfl ?_))
   exact (Qs rfl (Qs rfl Jhc1))) ?_
 refine Qf (Qa (Cu rfl (fun hc2 => ?_) (fun hc2 => ?_)))
 ·
  try simp only [bX] at hc2
  omega
 ·
  try simp only [bX] at hc2
  refine Qn (Qa (Qe (Qb (Om (Qc rfl) rfl ?_))))
  refine Om (Cv rfl rfl (by rw [IntKind.wrap_i64]; omega)) rfl ?_
  refine Om (Rf rfl rfl (by rw [IntKind.wrap_i64]; omega)) rfl ?_
  refine Oq (Qi Tryz.call197 rfl (primes_Smooth _ _ (by omega) (by omega))) rfl ?_
  rintro _ _ ⟨rfl, rfl⟩
  refine Om (Qc rfl) rfl (Om (Qq rfl rfl) rfl (Om (Qq rfl rfl) rfl (Om (Qd rfl) rfl (Om (Qd rfl) rfl (Qf (Qa (Qe ?_)))))))
  refine Qe (Qb (Om (Qc rfl) rfl (Om (Cg υ28 rfl) rfl (Om (Qc rfl) rfl (Om (Qc rfl) rfl (Om (Rb rfl rfl) rfl (Om (Qm rfl rfl) rfl ?_)))))))
  refine Qf (Qa (Qj rfl (fun hc3 => ?_) (fun hc3 => ?_)))
  ·
   omega
  ·
   refine Qn (Qa (Qe (Qb (Om (Qc rfl) rfl (Om (Qd rfl) rfl (Om (Qd rfl) rfl (Qf ?_)))))))
   refine Qa (Qp (Cz rfl rfl rfl (Ret.mk ?_)))
   exact ⟨rfl, rfl⟩
theorem offer (o : Ord) (cost : Int) (A : Option Addr) (c : Nat) (r : Ord × Int) (B : Option Addr) (e b : Nat) (S : Nat → Prop) (w : World) (bb : Bk w b (pricedC r B e) 149) (kd : RdK S w A o.kids) (kb : RdK S w B r.1.kids) (hS : ¬ S b) :
  Calls Tryz.prog 153 #[ordV o A c, .int .i64 cost, .pointer (some ⟨b, 0, none⟩)] w (Ret (fun v w' => v = .tuple #[] ∧ (∃ A' c', Bk w' b (pricedC (offerM r o cost) A' c') 149 ∧ RdK S w' A' (offerM r o cost).1.kids) ∧ Ch (Is b) w w')) := by
 have lb := bb.lt
 refine calls_of_VC (args := [ordV o A c, .int .i64 cost, .pointer (some ⟨b, 0, none⟩)]) Tryz.func153 rfl Tryz.ntmps153 rfl (Qe (Qb (Oq (Cj rfl) rfl ?_)))
 rintro _ w1 ⟨p1, rfl, N1⟩
 have c1 := N1.ch
 have e1 := N1.p; have z1 := N1.size
 have b3 := Bk.new N1
 refine Qf (Qa (Qe (Qb (Om (Qg υ149 rfl ς3 rfl rfl rfl) rfl ?_))))
 have bb_1 := bb.keep c1
 refine Om (Qh ι3 rfl (bb_1.cell rfl)) rfl (Om (Cs rfl rfl) rfl (Om (Qc rfl) rfl ?_))
 refine Rd (b := _) 5 8 13 rfl (fun hc1 Jhc1 => by
   refine Oy rfl (Oy rfl (Oy rfl (Oy rfl (Om (Qt rfl rfl) rfl ?_))))
   exact (Qs rfl (Qs rfl (Qs rfl (Qs rfl Jhc1))))) (fun hc1 Jhc1 => by
   try simp only [bX] at hc1
   refine Om (Qc rfl) rfl (Om (Qg υ149 rfl ς3 rfl rfl rfl) rfl (Om (Qh ι3 rfl (bb_1.cell rfl)) rfl (Om (Cs rfl rfl) rfl (Om (Qm rfl rfl) rfl ?_))))
   exact (Qs rfl (Qs rfl (Qs rfl (Qs rfl Jhc1))))) ?_
 refine Qf (Qa (Cu rfl (fun hc2 => ?_) (fun hc2 => ?_)))
 ·
  try simp only [bX] at hc2
  refine Qb (Om (Qr ι53 ς53 rfl rfl (b3.all' rfl)) rfl (Om (Qc rfl) rfl (Om (Cl rfl (bld149_0_1w7 rfl)) rfl (Oz (Cf ς149 rfl rfl rfl rfl bb_1 (Nat.le_of_ble_eq_true rfl)) rfl ?_))))
  intro _ w2 Z2
  have c2 := Z2.ch; have z2 := Z2.size
  have bb_2 := Bk.put Z2
  refine Qf (Ri rfl (Ret.mk ?_))
  have eo : offerM r o cost = (o, cost) := by unfold offerM; rw [if_pos hc2]
  have CH_1 := (Ch.refl (Is b) w).and c1
  have CH_2 : Ch (Is b) w w2 := CH_1.then c2
  refine ⟨rfl, ⟨A, c, ?_, ?_⟩, CH_2⟩
  · rw [eo]; exact bb_2
  have kd_1 := kd.keep c1
  have kd_2 := kd_1.to c2 (by first | exact fun _ _ _ _ => id | (intro q h1 h2 hx h3; omega) | exact fun q h1 h2 hx h3 => hS (h3 ▸ h2))
  · rw [eo]; exact kd_2
 ·
  try simp only [bX] at hc2
  refine Qn (Ri rfl (Ret.mk ?_))
  have eo : offerM r o cost = r := by unfold offerM; rw [if_neg (by omega)]
  have CH_1 := (Ch.refl (Is b) w).and c1
  refine ⟨rfl, ⟨B, e, ?_, ?_⟩, CH_1⟩
  · rw [eo]; exact bb_1
  have kb_1 := kb.keep c1
  · rw [eo]; exact kb_1
end Go.Tm
