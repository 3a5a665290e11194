/- Lemmas of this claim, joined by program. Walks of functions: an order's length and text. The planner's numbers, in plain Lean. Walks of functions: the planner's numbers. Rounds of a range over a function: the same rules inside a round; the range itself; what an iterator owes. Divisors, as the program finds them. Walks of functions: divisors. The planner's choice, in plain Lean. Maps: what is known of one, look-ups, updates. Walks of functions: what a chooser knows; factors; sizes. Walks of functions: hard lengths, sizes, the offer. Regions that draw their order and hold two workers that may be taken in either order; cuts. Conditions: each lemma names its own. -/
import Derived.Test.YtpfglkohcfjelaaGreatDoorJ01
import Derived.RangeFuncNested
import Derived.RangeFuncWrites
import Derived.OrdersIn
set_option linter.all false
namespace Go.Tm
set_option maxRecDepth 100000
open Go.RowKit Go.Proofs Go.Proofs.Tryz
theorem walker_length (m : Nat) : ∀ (o : Ord) (A : Option Addr) (c : Nat) (lo hi q : Nat) (p d : Int) (w : World) (_ : SizeOf.sizeOf o < m) (_ : RdK (In lo hi) w A o.kids) (_ : hi ≤ w.heap.size) (_ : q < lo ∨ hi ≤ q) (_ : Bk w q #[Kg p] 246) (_ : 0 ≤ p ∧ p ≤ 4096) (_ : 1 ≤ d ∧ d ≤ 17), Calls prog 220 #[Kh q, ordV o A c, Kg d] w (Ret (fun v w' => v = Kg (wl o p d).2 ∧ Bk w' q #[Kg (wl o p d).1] 246 ∧ Ch (Is q) w w')) := by
 induction m with
 | zero => intros; omega
 | succ m ih =>
 intro o A c lo hi q p d w hs kd hh hq bq hp hd
 refine Ku func220 O ntmps220 O ?_
 have lq := bq.lt; have hk0 := kids_lt o
 refine Kb (Km (Cp O) O ?_)
 intro p1 w1 b4 c1 e1 z1
 refine Ww O O (Wy (Wu O O (Om (Qq O) O (Om (Qh υ246 O ς3 O O O) O ?_))))
 have bq_1 := bq.keep c1
 refine Om (Qg ι3 O (bq_1.cell O)) O ?_
 refine Om (Cd O O) O ?_
 refine Om (Qq O) O (Om (Qh υ246 O ς3 O O O) O (Ks (Rk ς3 O O O O bq_1 O) O ?_))
 intro w2 c2 z2 bq_2
 refine Wz (Kb (Wu O O (Om (Qq O) O (Om (Qh υ246 O ς3 O O O) O ?_))))
 refine Om (Qg ι3 O (bq_2.cell O)) O (Om (Rb O O) O (Wu O O ?_))
 refine Cz (b := _) 3 21 24 O (fun hc1 Jhc1 => by
   refine Oy O (Oy O (Om (Qr O O) O ?_))
   exact (Qo O (Qo O Jhc1))) (fun hc1 Jhc1 => by
   try simp only [bX] at hc1
   refine Wu O O (Om (Rb O O) O (Om (Qm O O) O ?_))
   exact (Qo O (Qo O Jhc1))) ?_
 refine Ka (Cq O (fun hc2 => ?_) (fun hc2 => ?_))
 ·
  try simp only [bX] at hc2
  have hx : p + 1 > 4096 ∨ d > 16 := by omega
  refine Kb (Ww O O (Ka (Qp (Qw (Qx O O ?_)))))
  refine Kx ?_
  rw [wl_full hx]
  have CH_1 := (Ch.refl (Is q) w).and c1
  have CH_2 : Ch (Is q) w w2 := CH_1.then c2
  exact ⟨O, bq_2, CH_2⟩
 try simp only [bX] at hc2
 have hx : ¬ (p + 1 > 4096 ∨ d > 16) := by omega
 refine Qn (Qa (Qe (Qt (Kb (Om (Qh υ53 O ς3 O O O) O ?_)))))
 have b4_2 := b4.to c2
 refine Om (Qg ι3 O (b4_2.cell O)) O (Om (Cg O O) O (Wu O O ?_))
 refine Re (b := _) 5 29 34 O (fun hc3 Jhc3 => by
   try simp only [bX] at hc3
   refine Om (Qh υ53 O ς51 O O O) O (Om (Qg ι51 O (b4_2.cell O)) O (Om (Cs υ51 O) O (Om (Cg O O) O (Om (Qr O O) O ?_))))
   exact (Qo O (Qo O (Qo O (Qo O Jhc3))))) (fun hc3 Jhc3 => by
   refine Oy O (Oy O (Oy O (Oy O (Om (Qm O O) O ?_))))
   exact (Qo O (Qo O (Qo O (Qo O Jhc3))))) ?_
 refine Wu O O ?_
 refine Re (b := _) 4 35 39 O (fun hc4 Jhc4 => by
   try simp only [bX] at hc4
   refine Om (Qh υ53 O ς3 O O O) O (Om (Qg ι3 O (b4_2.cell O)) O (Om (Ry O O) O (Om (Qr O O) O ?_)))
   exact (Qo O (Qo O (Qo O Jhc4)))) (fun hc4 Jhc4 => by
   refine Oy O (Oy O (Oy O (Om (Qm O O) O ?_)))
   exact (Qo O (Qo O (Qo O Jhc4)))) ?_
 refine Wu O O ?_
 refine Re (b := _) 4 40 44 O (fun hc5 Jhc5 => by
   try simp only [bX] at hc5
   refine Om (Qh υ53 O ς3 O O O) O (Om (Qg ι3 O (b4_2.cell O)) O (Om (Ro O O) O (Om (Qr O O) O ?_)))
   exact (Qo O (Qo O (Qo O Jhc5)))) (fun hc5 Jhc5 => by
   refine Oy O (Oy O (Oy O (Om (Qm O O) O ?_)))
   exact (Qo O (Qo O (Qo O Jhc5)))) ?_
 refine Ww O O (Ka (Cq O (fun hc6 => ?_) (fun hc6 => ?_)))
 ·
  try simp only [bX] at hc6
  refine Kb (Om (Qh υ53 O ς3 O O O) O (Om (Qg ι3 O (b4_2.cell O)) O (Ww O O (Ka (Qp ?_)))))
  refine Cb (Qw (Qx O O (Kx ?_)))
  rw [wl_leaf hx (kids0 hc6.1.1.2), if_pos (by omega)]
  have CH_1 := (Ch.refl (Is q) w).and c1
  have CH_2 : Ch (Is q) w w2 := CH_1.then c2
  exact ⟨O, bq_2, CH_2⟩
 try simp only [bX] at hc6
 refine Kb (Om (Qh υ53 O ς3 O O O) O (Om (Qg ι3 O (b4_2.cell O)) O (Om (Cg O O) O (Wu O O ?_))))
 refine Re (b := _) 5 51 56 O (fun hc7 Jhc7 => by
   try simp only [bX] at hc7
   refine Om (Qh υ53 O ς51 O O O) O (Om (Qg ι51 O (b4_2.cell O)) O (Om (Cs υ51 O) O (Om (Cg O O) O (Om (Qr O O) O ?_))))
   exact (Qo O (Qo O (Qo O (Qo O Jhc7))))) (fun hc7 Jhc7 => by
   refine Oy O (Oy O (Oy O (Oy O (Om (Qm O O) O ?_))))
   exact (Qo O (Qo O (Qo O (Qo O Jhc7))))) ?_
 refine Wu O O ?_
 refine Re (b := _) 4 57 61 O (fun hc8 Jhc8 => by
   try simp only [bX] at hc8
   refine Om (Qh υ53 O ς3 O O O) O (Om (Qg ι3 O (b4_2.cell O)) O (Om (Ry O O) O (Om (Qr O O) O ?_)))
   exact (Qo O (Qo O (Qo O Jhc8)))) (fun hc8 Jhc8 => by
   refine Oy O (Oy O (Oy O (Om (Qm O O) O ?_)))
   exact (Qo O (Qo O (Qo O Jhc8)))) ?_
 refine Wu O O ?_
 refine Re (b := _) 4 62 66 O (fun hc9 Jhc9 => by
   try simp only [bX] at hc9
   refine Om (Qh υ53 O ς3 O O O) O (Om (Qg ι3 O (b4_2.cell O)) O (Om (Ro O O) O (Om (Qr O O) O ?_)))
   exact (Qo O (Qo O (Qo O Jhc9)))) (fun hc9 Jhc9 => by
   refine Oy O (Oy O (Oy O (Om (Qm O O) O ?_)))
   exact (Qo O (Qo O (Qo O Jhc9)))) ?_
 refine Ww O O (Ka (Cq O (fun hc10 => ?_) (fun hc10 => ?_)))
 ·
  try simp only [bX] at hc10
  refine Kb (Om (Qh υ53 O ς3 O O O) O (Om (Qg ι3 O (b4_2.cell O)) O (Ww O O (Ka (Qp ?_)))))
  refine Cb (Qw (Qx O O (Kx ?_)))
  rw [wl_leaf hx (kids0 hc10.1.1.2), if_neg (by omega), if_pos (by omega)]
  have CH_1 := (Ch.refl (Is q) w).and c1
  have CH_2 : Ch (Is q) w w2 := CH_1.then c2
  exact ⟨O, bq_2, CH_2⟩
 try simp only [bX] at hc10
 refine Kb (Om (Qh υ53 O ς3 O O O) O (Om (Qg ι3 O (b4_2.cell O)) O (Om (Cg O O) O (Wu O O ?_))))
 refine Re (b := _) 5 73 78 O (fun hc11 Jhc11 => by
   try simp only [bX] at hc11
   refine Om (Qh υ53 O ς51 O O O) O (Om (Qg ι51 O (b4_2.cell O)) O (Om (Cs υ51 O) O (Om (Cg O O) O (Om (Qr O O) O ?_))))
   exact (Qo O (Qo O (Qo O (Qo O Jhc11))))) (fun hc11 Jhc11 => by
   refine Oy O (Oy O (Oy O (Oy O (Om (Qm O O) O ?_))))
   exact (Qo O (Qo O (Qo O (Qo O Jhc11))))) ?_
 refine Wu O O ?_
 refine Re (b := _) 4 79 83 O (fun hc12 Jhc12 => by
   try simp only [bX] at hc12
   refine Om (Qh υ53 O ς3 O O O) O (Om (Qg ι3 O (b4_2.cell O)) O (Om (Cg O O) O (Om (Qr O O) O ?_)))
   exact (Qo O (Qo O (Qo O Jhc12)))) (fun hc12 Jhc12 => by
   refine Oy O (Oy O (Oy O (Om (Qm O O) O ?_)))
   exact (Qo O (Qo O (Qo O Jhc12)))) ?_
 refine Ww O O (Ka (Cq O (fun hc13 => ?_) (fun hc13 => ?_)))
 ·
  try simp only [bX] at hc13
  refine Qe ?_
  obtain ⟨a, b, ha, hb, e⟩ := kids2 hc13.1.2
  have la := kid_lt ha; have lb := kid_lt hb
  have ia := wl_bd _ a (p + 1) (d + 1) (Nat.lt_succ_self _) (by omega) (by omega)
  have kd_1 := kd.keep c1
  have kd_2 := kd_1.to c2
  obtain ⟨kA, kc, ka, kr⟩ := kd_2.kid ha
  refine Qb (Wu O O (Om (Qh υ53 O ς51 O O O) O (Om (Qg ι51 O (b4_2.cell O)) O (Om (Qs υ51 ς53 O O (kd_2.ne (by omega))) O (Om (Qz ι53 ς53 O O ka.1) O (Wu O O ?_))))))
  refine Om (Cd O O) O ?_
  refine Oq (Qi call220 O (ih a _ _ _ _ _ (p + 1) (d + 1) _ (by omega) kr (by omega) (by omega) bq_2 (by omega) (by omega))) O ?_
  rintro _ w3 ⟨rfl, bq_3, c3⟩
  have z3 := c3.size
  refine Ww O O (Wz (Kb (Wu O O (Om (Co O O) O ?_))))
  refine Ka (Qj O (fun hc14 => ?_) (fun hc14 => ?_))
  ·
   refine Kb (Ww O O (Ka (Qp (Qw (Cb ?_)))))
   refine Qw (Qx O O (Kx ?_))
   rw [wl_two hx e, if_pos (by omega), if_pos hc14]
   have CH_1 := (Ch.refl (Is q) w).and c1
   have CH_2 : Ch (Is q) w w2 := CH_1.then c2
   have CH_3 : Ch (Is q) w w3 := CH_2.then c3
   exact ⟨O, bq_3, CH_3⟩
  refine Qn (Qa (Qe ?_))
  have ib := wl_bd _ b (wl a (p + 1) (d + 1)).1 (d + 1) (Nat.lt_succ_self _) (by omega) (by omega)
  have kd_3 := kd_2.to c3
  obtain ⟨kB, kc2, kb, ks⟩ := kd_3.kid hb
  have mb := mul_bd ia.2.2.2.1 ia.2.2.2.2 ib.2.2.2.1 ib.2.2.2.2
  refine Qb (Wu O O (Om (Qh υ53 O ς51 O O O) O ?_))
  have b4_3 := b4_2.to c3
  refine Om (Qg ι51 O (b4_3.cell O)) O (Om (Qs υ51 ς53 O O (kd_3.ne (by omega))) O (Om (Qz ι53 ς53 O O kb.1) O (Wu O O ?_)))
  refine Om (Cd O O) O ?_
  refine Oq (Qi call220 O (ih b _ _ _ _ _ (wl a (p + 1) (d + 1)).1 (d + 1) _ (by omega) ks (by omega) (by omega) bq_3 (by omega) (by omega))) O ?_
  rintro _ w4 ⟨rfl, bq_4, c4⟩
  have z4 := c4.size
  refine Ww O O (Wz (Kb (Wu O O (Om (Co O O) O ?_))))
  refine Wu O O ?_
  refine Cz (b := _) 5 104 109 O (fun hc15 Jhc15 => by
    refine Oy O (Oy O (Oy O (Oy O (Om (Qr O O) O ?_))))
    exact (Qo O (Qo O (Qo O (Qo O Jhc15))))) (fun hc15 Jhc15 => by
    try simp only [bX] at hc15
    refine Wu O O (Wu O O ?_)
    refine Om (Cy O O) O ?_
    refine Om (Rb O O) O (Om (Qm O O) O ?_)
    exact (Qo O (Qo O (Qo O (Qo O Jhc15))))) ?_
  refine Ka (Cq O (fun hc16 => ?_) (fun hc16 => ?_))
  ·
   try simp only [bX] at hc16
   have hy : (wl b (wl a (p + 1) (d + 1)).1 (d + 1)).2 < 2 ∨ (wl a (p + 1) (d + 1)).2 * (wl b (wl a (p + 1) (d + 1)).1 (d + 1)).2 > 16384 := by omega
   refine Kb (Ww O O (Ka (Qp (Qw (Cb ?_)))))
   refine Qw (Qx O O (Kx ?_))
   rw [wl_two hx e, if_pos (by omega), if_neg hc14, if_pos hy]
   have CH_1 := (Ch.refl (Is q) w).and c1
   have CH_2 : Ch (Is q) w w2 := CH_1.then c2
   have CH_3 : Ch (Is q) w w3 := CH_2.then c3
   have CH_4 : Ch (Is q) w w4 := CH_3.then c4
   exact ⟨O, bq_4, CH_4⟩
  try simp only [bX] at hc16
  have hy : ¬ ((wl b (wl a (p + 1) (d + 1)).1 (d + 1)).2 < 2 ∨ (wl a (p + 1) (d + 1)).2 * (wl b (wl a (p + 1) (d + 1)).1 (d + 1)).2 > 16384) := by omega
  refine Qn (Qa (Kb (Wu O O (Wu O O ?_))))
  refine Om (Cy O O) O ?_
  refine Ww O O (Ka (Qp (Cb (Qw (Qx O O (Kx ?_))))))
  rw [wl_two hx e, if_pos (by omega), if_neg hc14, if_neg hy]
  have CH_1 := (Ch.refl (Is q) w).and c1
  have CH_2 : Ch (Is q) w w2 := CH_1.then c2
  have CH_3 : Ch (Is q) w w3 := CH_2.then c3
  have CH_4 : Ch (Is q) w w4 := CH_3.then c4
  exact ⟨O, bq_4, CH_4⟩
 try simp only [bX] at hc13
 refine Kb (Om (Qh υ53 O ς3 O O O) O (Om (Qg ι3 O (b4_2.cell O)) O (Om (Cg O O) O (Wu O O ?_))))
 refine Re (b := _) 5 117 122 O (fun hc17 Jhc17 => by
   try simp only [bX] at hc17
   refine Om (Qh υ53 O ς51 O O O) O (Om (Qg ι51 O (b4_2.cell O)) O (Om (Cs υ51 O) O (Om (Cg O O) O (Om (Qr O O) O ?_))))
   exact (Qo O (Qo O (Qo O (Qo O Jhc17))))) (fun hc17 Jhc17 => by
   refine Oy O (Oy O (Oy O (Oy O (Om (Qm O O) O ?_))))
   exact (Qo O (Qo O (Qo O (Qo O Jhc17))))) ?_
 refine Wu O O ?_
 refine Re (b := _) 4 123 127 O (fun hc18 Jhc18 => by
   try simp only [bX] at hc18
   refine Om (Qh υ53 O ς3 O O O) O (Om (Qg ι3 O (b4_2.cell O)) O (Om (Ry O O) O (Om (Qr O O) O ?_)))
   exact (Qo O (Qo O (Qo O Jhc18)))) (fun hc18 Jhc18 => by
   refine Oy O (Oy O (Oy O (Om (Qm O O) O ?_)))
   exact (Qo O (Qo O (Qo O Jhc18)))) ?_
 refine Wu O O ?_
 refine Re (b := _) 4 128 132 O (fun hc19 Jhc19 => by
   try simp only [bX] at hc19
   refine Om (Qh υ53 O ς3 O O O) O (Om (Qg ι3 O (b4_2.cell O)) O (Om (Ro O O) O (Om (Qr O O) O ?_)))
   exact (Qo O (Qo O (Qo O Jhc19)))) (fun hc19 Jhc19 => by
   refine Oy O (Oy O (Oy O (Om (Qm O O) O ?_)))
   exact (Qo O (Qo O (Qo O Jhc19)))) ?_
 refine Ww O O (Ka (Cq O (fun hc20 => ?_) (fun hc20 => ?_)))
 ·
  try simp only [bX] at hc20
  refine Qe (Qe ?_)
  obtain ⟨a, ha, e⟩ := kids1 hc20.1.1.2
  have la := kid_lt ha
  have ia := wl_bd _ a (p + 1) (d + 1) (Nat.lt_succ_self _) (by omega) (by omega)
  have kd_1 := kd.keep c1
  have kd_2 := kd_1.to c2
  obtain ⟨kA, kc, ka, kr⟩ := kd_2.kid ha
  refine Kj 13 [0, 2, 4, 6, 8, 10, 12, 16, 18, 20, 22, 15, 24] (Is q) ?_
  intro w5 c5 z5
  have bq_5 := bq_2.keep c5
  have b4_5 := b4_2.keep c5
  have ka_5 := ka.keep c5
  refine Wv O O (Ws (Qh υ53 O ς51 O O O) O (Wt (fun hS => Qg ι51 O ((b4_5.to hS).cell O)) O ?_))
  have kd_5 := kd_2.keep c5
  refine Ws (Qs υ51 ς53 O O (kd_5.ne (by omega))) O ?_
  refine Wt (fun hS => Qz ι53 ς53 O O (ka_5.to hS).1) O ?_
  refine Wv O O ?_
  refine Ws (Cd O O) O ?_
  refine Ws (Qh υ53 O ς3 O O O) O (Wt (fun hS => Qg ι3 O ((b4_5.to hS).cell O)) O ?_)
  refine Ws (Cy O O) O ?_
  refine Ws (Rg O O) O ?_
  have kr_5 := kr.keep c5
  refine Hq (Qi call220 O (ih a _ _ _ _ _ (p + 1) (d + 1) _ (by omega) kr_5 (by omega) (by omega) bq_5 (by omega) (by omega))) O ?_
  rintro _ w6 ⟨rfl, bq_6, c6⟩
  have z6 := c6.size
  have RD_6 : Ch (Is q) w5 w6 := (Ch.refl (Is q) w5).then c6
  refine ⟨RD_6, ?_⟩
  refine Ws (Co O O) O (Cj (Qf (Ca (Qa (Qj O (fun hc21 => ?_) (fun hc21 => ?_))))))
  ·
   refine Kb (Ww O O (Ka (Qp (Qw (Cb ?_)))))
   refine Qw (Qx O O (Kx ?_))
   rw [wl_one hx e, if_pos (by omega), if_pos hc21]
   have CH_1 := (Ch.refl (Is q) w).and c1
   have CH_2 : Ch (Is q) w w2 := CH_1.then c2
   have CH_5 := CH_2.and c5
   have CH_6 : Ch (Is q) w w6 := CH_5.then c6
   exact ⟨O, bq_6, CH_6⟩
  refine Qn (Qa (Kb (Om (Qh υ53 O ς3 O O O) O ?_)))
  have b4_6 := b4_5.to c6
  refine Om (Qg ι3 O (b4_6.cell O)) O (Ww O O (Ka (Qp (Cb (Qw (Qx O O ?_))))))
  refine Kx ?_
  rw [wl_one hx e, if_pos (by omega), if_neg hc21]
  have CH_1 := (Ch.refl (Is q) w).and c1
  have CH_2 : Ch (Is q) w w2 := CH_1.then c2
  have CH_5 := CH_2.and c5
  have CH_6 : Ch (Is q) w w6 := CH_5.then c6
  exact ⟨O, bq_6, CH_6⟩
 try simp only [bX] at hc20
 refine Qn (Ql (Qa (Kb (Ww O O (Ka ?_)))))
 refine Qp (Qx O O (Kx ?_))
 rw [wl_none hx (by omega) (by omega) (by omega) (by omega)]
 have CH_1 := (Ch.refl (Is q) w).and c1
 have CH_2 : Ch (Is q) w w2 := CH_1.then c2
 exact ⟨O, bq_2, CH_2⟩
theorem order_Length (o : Ord) (A : Option Addr) (c : Nat) (lo hi : Nat) (w : World) (kd : RdK (In lo hi) w A o.kids) (hh : hi ≤ w.heap.size := by omega) :
  Calls prog 170 #[ordV o A c] w (Ret (fun v w' => v = Kg o.len ∧ Ch No w w')) := by
 refine Ku func170 O ntmps170 O (Kb (Km (Cp O) O ?_))
 intro p1 w1 b1 c1 e1 z1
 refine Ww O O (Wy (Km (Ck zeroValue246) O ?_))
 intro p2 w2 b3 c2 e2 z2
 have b1_2 := b1.keep c2
 refine Om (Qz ι53 ς53 O O (b1_2.all' O)) O ?_
 have kd_2 := kd.keep (c1.trans c2)
 refine Oq (Qi call220 O (walker_length _ o _ _ _ _ _ 0 1 _ (Nat.lt_succ_self _) kd_2 (by omega) (by omega) b3 (by omega) (by omega))) O ?_
 rintro _ w3 ⟨rfl, bz, c3⟩
 have z3 := c3.size
 refine Ww O O (Ka (Qp (Qx O O (Kx ?_))))
 have CH_2 := (c1.trans c2)
 have CH_3 : Ch (No) w w3 := CH_2.then c3
 exact ⟨O, CH_3⟩
end Go.Tm
namespace Go.Tm
def fwork (r : Int) : Int × Int := if r = 2 then (4, 0) else if r = 3 then (12, 4) else if r = 4 then (16, 0) else if r = 5 then (32, 16) else (0, 0)
def fw (r : Int) : Int := (fwork r).1 + (fwork r).2
theorem fwork_bd (r : Int) : 0 ≤ (fwork r).1 ∧ (fwork r).1 ≤ 32 ∧ 0 ≤ (fwork r).2 ∧ (fwork r).2 ≤ 16 := by
 unfold fwork; split <;> (try split) <;> (try split) <;> (try split) <;> simp
def plusGo (s : Int) : List Int → Int
 | [] => s
 | x :: t => if x > 4611686018427387904 - s then 4611686018427387905 else plusGo (s + x) t
theorem plusGo_bd : ∀ (l : List Int) (s : Int), s ≤ 4611686018427387904 → (∀ x ∈ l, -65536 ≤ x) → s - 65536 * l.length ≤ plusGo s l ∧ plusGo s l ≤ 4611686018427387905
 | [], s, h1, _ => by simp only [plusGo, List.length_nil]; omega
 | x :: t, s, h1, h => by
  have hx := h x List.mem_cons_self
  simp only [plusGo, List.length_cons]
  split
  · omega
  ·
   have := plusGo_bd t (s + x) (by omega) fun y hy => h y (List.mem_cons_of_mem _ hy)
   omega
theorem plusGo_pos : ∀ (l : List Int) (s : Int), 0 ≤ s → s ≤ 4611686018427387904 → (∀ x ∈ l, 0 ≤ x) → 0 ≤ plusGo s l
 | [], s, h0, h1, _ => by simp only [plusGo]; omega
 | x :: t, s, h0, h1, h => by
  have hx := h x List.mem_cons_self
  simp only [plusGo]
  split
  · omega
  · exact plusGo_pos t (s + x) (by omega) (by omega) fun y hy => h y (List.mem_cons_of_mem _ hy)
theorem plusGo_drop {xs : List Int} {i : Nat} {s x : Int} (h : xs[i]? = some x) : plusGo s (xs.drop i) = if x > 4611686018427387904 - s then 4611686018427387905 else plusGo (s + x) (xs.drop (i + 1)) := by
 rw [List.drop_eq_getElem_cons (List.getElem?_eq_some_iff.1 h).1, (List.getElem?_eq_some_iff.1 h).2, plusGo]
def timesS (a b : Int) : Int := if a > 0 ∧ b > 4611686018427387904 / a then 4611686018427387905 else a * b
theorem times_bd {a b : Int} (ha : 0 ≤ a) (ha' : a ≤ 65536) (hb : -1 ≤ b) (h : ¬ (a > 0 ∧ b > 4611686018427387904 / a)) : -65536 ≤ a * b ∧ a * b ≤ 4611686018427387904 := by
 constructor
 ·
  have := Int.mul_le_mul_of_nonneg_left hb ha
  omega
 ·
  by_cases h0 : a = 0
  · subst h0; simp
  ·
   have h1 : b ≤ 4611686018427387904 / a := by omega
   have h2 := Int.mul_le_mul_of_nonneg_left h1 ha
   exact Int.le_trans h2 (Int.mul_ediv_self_le h0)
theorem timesS_bd {a b : Int} (ha : 0 ≤ a) (ha' : a ≤ 65536) (hb : -1 ≤ b) : -65536 ≤ timesS a b ∧ timesS a b ≤ 4611686018427387905 := by
 unfold timesS
 split
 · omega
 · rename_i h; have := times_bd ha ha' hb h; omega
theorem timesS_pos {a b : Int} (ha : 0 ≤ a) (hb : 0 ≤ b) : 0 ≤ timesS a b := by
 unfold timesS
 split
 · omega
 · exact Int.mul_nonneg ha hb
def timesC (a b ca cb : Int) (fly : Bool) : Int :=
 if fly then plusGo 0 [timesS a cb, timesS b ca, 6 * (a - 1) * (b - 1)] else plusGo 0 [plusGo 0 [timesS a cb, timesS b ca, 6 * (a - 1) * (b - 1)], a * b]
def blueC (n m cm : Int) : Int := plusGo 0 [timesS 3 cm, 12 * n, 10 * m]
def lcost (k n : Int) : Int := if k = 1 then 8 * n * n else fw n
theorem six_bd {a b : Int} (h1 : 1 ≤ a) (h2 : a ≤ 65536) (h3 : 1 ≤ b) (h4 : b ≤ 65536) : 0 ≤ 6 * (a - 1) * (b - 1) ∧ 6 * (a - 1) * (b - 1) ≤ 25769803776 ∧ 0 ≤ a * b ∧ a * b ≤ 4294967296 := by
 have e1 := Int.mul_nonneg (show (0:Int) ≤ 6 * (a - 1) by omega) (show (0:Int) ≤ b - 1 by omega)
 have e2 := Int.mul_le_mul (show 6 * (a - 1) ≤ 393216 by omega) (show b - 1 ≤ 65536 by omega) (by omega) (by omega)
 have e3 := Int.mul_nonneg (show (0:Int) ≤ a by omega) (show (0:Int) ≤ b by omega)
 have e4 := Int.mul_le_mul h2 h4 (by omega) (show (0:Int) ≤ 65536 by omega)
 omega
theorem sq_bd {n : Int} (h0 : 0 ≤ n) (h1 : n ≤ 65536) : 0 ≤ 8 * n * n ∧ 8 * n * n ≤ 34359738368 := by
 have e1 := Int.mul_nonneg (show (0:Int) ≤ 8 * n by omega) h0
 have e2 := Int.mul_le_mul (show 8 * n ≤ 524288 by omega) h1 h0 (by omega)
 omega
theorem timesC_bd {a b ca cb : Int} {f : Bool} (h1 : 1 ≤ a := by omega) (h2 : a ≤ 65536 := by omega) (h3 : 1 ≤ b := by omega) (h4 : b ≤ 65536 := by omega) (h5 : 0 ≤ ca := by omega) (h6 : 0 ≤ cb := by omega) : 0 ≤ timesC a b ca cb f ∧ timesC a b ca cb f ≤ 4611686018427387905 := by
 have s := six_bd h1 h2 h3 h4
 have t1 := timesS_pos (show 0 ≤ a by omega) h6
 have t2 := timesS_pos (show 0 ≤ b by omega) h5
 have p := plusGo_pos [timesS a cb, timesS b ca, 6 * (a - 1) * (b - 1)] 0 (by omega) (by omega) (by simp; omega)
 have p' := plusGo_bd [timesS a cb, timesS b ca, 6 * (a - 1) * (b - 1)] 0 (by omega) (by simp; omega)
 unfold timesC
 split
 · exact ⟨p, p'.2⟩
 · exact ⟨plusGo_pos _ 0 (by omega) (by omega) (by simp; omega), (plusGo_bd _ 0 (by omega) (by simp; omega)).2⟩
theorem blueC_bd {n m cm : Int} (h1 : 1 ≤ n := by omega) (h2 : n ≤ 65536 := by omega) (h3 : 1 ≤ m := by omega) (h4 : m ≤ 65536 := by omega) (h5 : -1 ≤ cm := by omega) : 0 ≤ blueC n m cm ∧ blueC n m cm ≤ 4611686018427387905 := by
 refine ⟨?_, (plusGo_bd _ 0 (by omega) (by have t1 := timesS_bd (show (0:Int) ≤ 3 by omega) (by omega) h5; simp; omega)).2⟩
 by_cases hc : 0 ≤ cm
 ·
  have t1 := timesS_pos (show (0:Int) ≤ 3 by omega) hc
  exact plusGo_pos _ 0 (by omega) (by omega) (by simp; omega)
 ·
  have : cm = -1 := by omega
  subst this
  have e : timesS 3 (-1) = -3 := by decide
  unfold blueC
  rw [e]
  simp only [plusGo]
  rw [if_neg (by omega), if_neg (by omega), if_neg (by omega)]
  omega
theorem lcost_bd {k n : Int} (h1 : 0 ≤ n := by omega) (h2 : n ≤ 65536 := by omega) : 0 ≤ lcost k n ∧ lcost k n ≤ 34359738368 := by
 have := sq_bd h1 h2
 have := fwork_bd n
 unfold lcost fw
 split <;> omega
end Go.Tm
namespace Go.Tm
set_option maxRecDepth 100000
open Go.RowKit Go.Proofs Go.Proofs.Tryz
theorem inf3w4 : Inf prog 3 (.int .i64 0) 1 8 := ⟨Tryz.t3, type3, rfl, rfl, rfl⟩
theorem fly_Work (r : Int) (w : World) :
  Calls prog 245 #[Kg r] w (Ret (fun v w' => v = .tuple #[Kg (fwork r).1, Kg (fwork r).2] ∧ w = w')) := by
 refine Ku func245 O ntmps245 O (Kb (Ww O O (Ww O O (Wz ?_))))
 refine Kb (Wu O O (Ka (Qt (Kb ?_))))
 refine Om (Cg O O) O (Ww O O (Ka (Qj O (fun hc1 => ?_) (fun hc1 => ?_))))
 ·
  refine Kb (Ww O O (Ww O O (Ka (Qp (Cb ?_)))))
  refine Qw (Ra O O O (Kx ?_))
  refine ⟨?_, O⟩; unfold fwork; rw [if_pos hc1]
 refine Kb (Om (Cg O O) O (Ww O O (Ka (Qj O (fun hc2 => ?_) (fun hc2 => ?_)))))
 ·
  refine Kb (Ww O O (Ww O O (Ka (Qp (Cb ?_)))))
  refine Qw (Ra O O O (Kx ?_))
  refine ⟨?_, O⟩; unfold fwork; rw [if_neg hc1, if_pos hc2]
 refine Kb (Om (Cg O O) O (Ww O O (Ka (Qj O (fun hc3 => ?_) (fun hc3 => ?_)))))
 ·
  refine Kb (Ww O O (Ww O O (Ka (Qp (Cb ?_)))))
  refine Qw (Ra O O O (Kx ?_))
  refine ⟨?_, O⟩; unfold fwork; rw [if_neg hc1, if_neg hc2, if_pos hc3]
 refine Kb (Om (Cg O O) O (Ww O O (Ka (Qj O (fun hc4 => ?_) (fun hc4 => ?_)))))
 ·
  refine Kb (Ww O O (Ww O O (Ka (Qp (Cb ?_)))))
  refine Qw (Ra O O O (Kx ?_))
  refine ⟨?_, O⟩; unfold fwork; rw [if_neg hc1, if_neg hc2, if_neg hc3, if_pos hc4]
 refine Qn (Ql (Qa (Kb (Ww O O (Ww O O (Qf ?_))))))
 refine Qa (Qp (Ra O O O (Kx ?_)))
 refine ⟨?_, O⟩; unfold fwork; rw [if_neg hc1, if_neg hc2, if_neg hc3, if_neg hc4]
theorem planner_work (r : Int) (w : World) :
  Calls prog 191 #[Kg r] w (Ret (fun v w' => v = Kg (fw r) ∧ w = w')) := by
 have hb := fwork_bd r
 refine Ku func191 O ntmps191 O (Kb (Ww O O (Wy ?_)))
 refine Wu O O (Oq (Qi call245 O (fly_Work _ _ )) O ?_)
 rintro _ _ ⟨rfl, rfl⟩
 refine Wu O O (Om (Qu O O) O (Om (Qu O O) O (Ww O O (Ww O O (Wz ?_)))))
 refine Qb (Wu O O (Wu O O ?_))
 refine Om (Cd O O) O ?_
 refine Ww O O (Ka (Qp (Qx O O (Kx ?_))))
 exact ⟨O, O⟩
theorem planner_times (a b : Int) (w : World) (ha : 0 ≤ a := by omega) (ha2 : a ≤ 65536 := by omega) (hb : -1 ≤ b := by omega) (hb2 : b ≤ 9223372036854775807 := by omega) :
  Calls prog 195 #[Kg a, Kg b] w (Ret (fun v w' => v = Kg (timesS a b) ∧ w = w')) := by
 refine Ku func195 O ntmps195 O (Kb (Ww O O (Wz (Qe ?_))))
 refine Qb (Wu O O (Om (Rb O O) O (Wu O O ?_)))
 refine Re (b := _) 5 7 12 O (fun hc1 Jhc1 => by
   try simp only [bX] at hc1
   refine Wu O O (Wu O O (Om (Wc O O (by omega) (by omega) (by omega)) O (Om (Rb O O) O (Om (Qr O O) O ?_))))
   exact (Qo O (Qo O (Qo O (Qo O Jhc1))))) (fun hc1 Jhc1 => by
   refine Oy O (Oy O (Oy O (Oy O (Om (Qm O O) O ?_))))
   exact (Qo O (Qo O (Qo O (Qo O Jhc1))))) ?_
 refine Ka (Cq O (fun hc2 => ?_) (fun hc2 => ?_))
 ·
  try simp only [bX] at hc2
  refine Kb (Ww O O (Ka (Qp (Qw (Qx O O ?_)))))
  refine Kx ?_
  refine ⟨?_, O⟩; unfold timesS; rw [if_pos hc2]
 try simp only [bX] at hc2
 refine Qn (Qa (Kb (Wu O O (Wu O O ?_))))
 refine Om (Cy O O (by rw [IntKind.wrap_i64]; have := times_bd ha ha2 hb (by omega); omega)) O ?_
 refine Ww O O (Ka (Qp (Qx O O (Kx ?_))))
 refine ⟨?_, O⟩; unfold timesS; rw [if_neg (fun h => by rcases hc2 with h2 | h2; exact h2 h.1; exact h2 h.2)]
theorem planner_plus (S : Nat → Prop) (xs : List Int) (A : Option Addr) (c : Nat) (w : World) (sl : SlR S w A xs.length 1 (xs.map (.int .i64 ·))) (hl : xs.length ≤ 100) (hx : ∀ x ∈ xs, -65536 ≤ x ∧ x ≤ 9223372036854775807) :
  Calls prog 194 #[.slice A xs.length c] w (Ret (fun v w' => v = Kg (plusGo 0 xs) ∧ w = w')) := by
 refine Ku func194 O ntmps194 O (Kb (Ww O O (Wy ?_)))
 refine Ww O O (Wz (Kb (Wu O O (Om (Cs υ77 O) O ?_))))
 refine Wu O O (Ka (Qt (Kf (σ := Nat × Int) (fun (i, s) => [(3, Kg s), (6, .slice A xs.length c), (7, Kg xs.length), (8, Kg i)]) (fun (i, s) w' => w = w' ∧ i ≤ xs.length ∧ -(65536 * (i : Int)) ≤ s ∧ s ≤ 4611686018427387904 ∧ plusGo 0 xs = plusGo s (xs.drop i)) (fun (i, s) => xs.length - i) (0, 0) ?_ ?_)))
 · exact ⟨O, Nat.zero_le _, by simp, by omega, O⟩
 rintro ⟨i, s⟩ _ ⟨rfl, i1, s0, s1, hs⟩
 refine Kb (Om (Co O O) O (Wz (Qj O (fun hc1 => ?_) (fun hc1 => ?_))))
 ·
  refine Qn (Qa (Qe (Qt (Qe ?_))))
  have hxi : xs[i]? = some (xs.getD ((i : Int)).toNat 0) := by rw [Int.toNat_natCast, List.getD, List.getElem?_eq_getElem (by omega)]; rfl
  have hb := hx _ (List.mem_of_getElem? hxi)
  refine Qb (Om (Qs υ77 ς3 O O (sl.ne (by omega))) O (Om (Qg ι3 O (sl.get 0 (by omega) (by omega))) O (Ww O O (Wz (Qe ?_)))))
  refine Qb (Wu O O (Wu O O ?_))
  refine Om (Rg O O) O ?_
  refine Om (Rb O O) O (Ka (Qj O (fun hc2 => ?_) (fun hc2 => ?_)))
  ·
   refine Kb (Ww O O (Ka (Qp (Qw (Cb ?_)))))
   refine Qw (Qw (Cb (Qw (Qx O O (Kx ?_)))))
   refine ⟨?_, O⟩; rw [hs, plusGo_drop hxi, if_pos hc2]
  refine Qn (Qa (Qb (Wu O O (Wu O O ?_))))
  refine Om (Cd O O) O ?_
  refine Ww O O (Qf (Ql (Qa (Qb ?_))))
  refine Om (Cd O O) O ?_
  refine Wu O O (Qf ?_)
  refine Ke (i + 1, s + xs.getD ((i : Int)).toNat 0) ?_
  refine ⟨O, by omega, by omega, by omega, ?_⟩
  rw [hs, plusGo_drop hxi, if_neg hc2]
 refine Cn (Qk (Qk (Qy (Qa (Kb (Wu O O ?_))))))
 refine Ww O O (Ka (Qp (Qx O O (Kx ?_))))
 refine ⟨?_, O⟩; have : i = xs.length := by omega
 subst this; rw [hs, List.drop_length]; rfl
theorem planner_timesCost (a b ca cb : Int) (f : Bool) (w : World) (h1 : 1 ≤ a := by omega) (h2 : a ≤ 65536 := by omega) (h3 : 1 ≤ b := by omega) (h4 : b ≤ 65536 := by omega) (h5 : 0 ≤ ca := by omega) (h6 : 0 ≤ cb := by omega) (h7 : ca ≤ 4611686018427387905 := by omega) (h8 : cb ≤ 4611686018427387905 := by omega) :
  Calls prog 158 #[Kg a, Kg b, Kg ca, Kg cb, .bool f] w (Ret (fun v w' => v = Kg (timesC a b ca cb f) ∧ Ch No w w')) := by
 have hs := six_bd h1 h2 h3 h4
 have t1 := timesS_bd (show 0 ≤ a by omega) h2 (show -1 ≤ cb by omega); have t2 := timesS_bd (show 0 ≤ b by omega) h4 (show -1 ≤ ca by omega)
 have pb := plusGo_bd [timesS a cb, timesS b ca, 6 * (a - 1) * (b - 1)] 0 (by omega) (by simp; omega)
 have pp := plusGo_pos [timesS a cb, timesS b ca, 6 * (a - 1) * (b - 1)] 0 (by omega) (by omega) (by have := timesS_pos (show 0 ≤ a by omega) h6; have := timesS_pos (show 0 ≤ b by omega) h5; simp; omega)
 refine Ku func158 O ntmps158 O (Kb (Ww O O (Wy ?_)))
 refine Wu O O (Wu O O (Oq (Qi call195 O (planner_times _ _ _)) O ?_))
 rintro _ _ ⟨rfl, rfl⟩
 refine Wu O O (Wu O O (Oq (Qi call195 O (planner_times _ _ _)) O ?_))
 rintro _ _ ⟨rfl, rfl⟩
 refine Wu O O ?_
 refine Om (Rg O O) O ?_
 refine Om (Cy O O) O ?_
 refine Wu O O ?_
 refine Om (Rg O O) O ?_
 refine Om (Cy O O) O ?_
 refine Kq 1 3 (Kl υ77 inf3w4 O O) O ?_
 intro p1 w1 l24 l24o c1 e1 z1
 refine Oq (Qi call194 O (planner_plus _ [timesS a cb, timesS b ca, 6 * (a - 1) * (b - 1)] _ _ _ l24 (by simp) (by simp; omega))) O ?_
 rintro _ _ ⟨rfl, rfl⟩
 refine Ww O O (Wz (Kb (Wu O O (Om (Rm O) O ?_))))
 refine Ka (Cq O (fun hc1 => ?_) (fun hc1 => ?_))
 ·
  try simp only [bX] at hc1
  refine Qb (Wu O O (Wu O O (Wu O O ?_)))
  refine Om (Cy O O) O ?_
  refine Kq 1 2 (Kl υ77 inf3w4 O O) O ?_
  intro p2 w2 l32 l32o c2 e2 z2
  refine Oq (Qi call194 O (planner_plus _ [plusGo 0 [timesS a cb, timesS b ca, 6 * (a - 1) * (b - 1)], a * b] _ _ _ l32 (by simp) (by simp; omega))) O ?_
  rintro _ _ ⟨rfl, rfl⟩
  refine Ww O O (Wy (Wu O O (Ww O O (Qf ?_))))
  refine Qa (Qp (Qx O O (Kx ?_)))
  have CH_2 := (c1.trans c2)
  refine ⟨?_, CH_2⟩; unfold timesC; rw [if_neg (by simp [hc1])]
 try simp only [bX] at hc1
 refine Qn (Qa (Kb (Wu O O (Ww O O (Ka ?_)))))
 refine Qp (Qx O O (Kx ?_))
 have CH_1 := c1
 refine ⟨?_, CH_1⟩; unfold timesC; rw [if_pos hc1]
theorem planner_blueCost (n m cm : Int) (w : World) (h1 : 0 ≤ n := by omega) (h2 : n ≤ 65536 := by omega) (h3 : 0 ≤ m := by omega) (h4 : m ≤ 65536 := by omega) (h5 : -1 ≤ cm := by omega) (h6 : cm ≤ 4611686018427387905 := by omega) :
  Calls prog 162 #[Kg n, Kg m, Kg cm] w (Ret (fun v w' => v = Kg (blueC n m cm) ∧ Ch No w w')) := by
 have t1 := timesS_bd (show (0 : Int) ≤ 3 by omega) (by omega) h5
 refine Ku func162 O ntmps162 O (Kb (Ww O O (Wy ?_)))
 refine Wu O O (Oq (Qi call195 O (planner_times _ _ _)) O ?_)
 rintro _ _ ⟨rfl, rfl⟩
 refine Wu O O ?_
 refine Om (Cy O O) O ?_
 refine Wu O O ?_
 refine Om (Cy O O) O ?_
 refine Kq 1 3 (Kl υ77 inf3w4 O O) O ?_
 intro p1 w1 l13 l13o c1 e1 z1
 refine Oq (Qi call194 O (planner_plus _ [timesS 3 cm, 12 * n, 10 * m] _ _ _ l13 (by simp) (by simp; omega))) O ?_
 rintro _ _ ⟨rfl, rfl⟩
 refine Ww O O (Ka (Qp (Qx O O (Kx ?_))))
 have CH_1 := c1
 exact ⟨O, CH_1⟩
theorem planner_cost (k n : Int) (A : Option Addr) (c : Nat) (w : World) (hk : k = 1 ∨ k = 2) (h1 : 0 ≤ n := by omega) (h2 : n ≤ 65536 := by omega) :
  Calls prog 155 #[.agg #[Kg k, Kg n, .slice A 0 c]] w (Ret (fun v w' => v = Kg (lcost k n) ∧ Ch No w w')) := by
 have hs := sq_bd h1 h2
 refine Ku func155 O ntmps155 O (Kb (Km (Cp O) O ?_))
 intro p1 w1 b1 c1 e1 z1
 refine Ww O O (Wz (Kb (Om (Qh υ53 O ς3 O O O) O (Om (Qg ι3 O (b1.cell O)) O ?_))))
 refine Ka (Qt (Kb (Om (Cg O O) O (Ww O O (Qf ?_)))))
 refine Qa (Qj O (fun hc1 => ?_) (fun hc1 => ?_))
 ·
  refine Kb (Om (Qh υ53 O ς3 O O O) O (Om (Qg ι3 O (b1.cell O)) O ?_))
  refine Om (Cy O O) O ?_
  refine Om (Qh υ53 O ς3 O O O) O (Om (Qg ι3 O (b1.cell O)) O ?_)
  refine Om (Cy O O) O ?_
  refine Ww O O (Ka (Qp (Cb (Qw (Qx O O (Kx ?_))))))
  have CH_1 := c1
  refine ⟨?_, CH_1⟩; unfold lcost; rw [if_pos hc1]
 refine Kb (Om (Cg O O) O (Ww O O (Ka (Qj O (fun hc2 => ?_) (fun hc2 => ?_)))))
 ·
  refine Kb (Om (Qh υ53 O ς3 O O O) O (Om (Qg ι3 O (b1.cell O)) O (Oq (Qi call191 O (planner_work _ _ )) O ?_)))
  rintro _ _ ⟨rfl, rfl⟩
  refine Ww O O (Ka (Qp (Cb (Qw (Qx O O (Kx ?_))))))
  have CH_1 := c1
  refine ⟨?_, CH_1⟩; unfold lcost; rw [if_neg hc1]
 exact absurd hk (by omega)
end Go.Tm
namespace Go.Tm
open Go.RowKit
def NoPO (Q : Exit → Act → World → Prop) : Exit → Act → World → Prop
 | .panic _, _, _ => False
 | .outgrown, _, _ => False
 | e, a, w => Q e a w
theorem NoPO.letsOut {Q : Exit → Act → World → Prop} : ¬ LetsOut (NoPO Q) := fun ⟨_, _, h⟩ => h
def notDef (o : Oper) : Bool := match o.op with
 | .defer _ => false
 | _ => true
theorem notDef_spec {o : Oper} (h : notDef o = true) : ∀ c, o.op ≠ .defer c := by
 intro c e
 simp [notDef, e] at h
section
variable {P : Program} {rr : Option Nat} {Q : Exit → Act → World → Prop} {ops : Array Oper}
theorem calls_fw {f : FuncId} {args : Array Value} {w : World} {R : Ending → World → Prop} {m : Nat} (h : Calls P f args w R) : CallsIn (Fw rr) m P f args w R := (callsIn_wide (n := m)).2 h
theorem rows_fw {row : String} {args : Array Value} {w : World} {R : Value → World → Prop} {m : Nat} (h : Rows P row args w R) : RowsIn (Fw rr) m P row args w R :=
 fun c cs _ => let ⟨v, w', r, s⟩ := h c cs; ⟨v, w', r, (stepsIn_wide (P := P)).2 s⟩
theorem op_fw {o : Oper} {a : Act} {w : World} {K K' : Act → World → Prop} (hd : notDef o = true) (hK : ∀ a w, K a w → K' a w) (h : o.wp P a w K (NoPO Q)) : o.wpIn (Fw rr) 0 P a w K' Q := by
 refine ⟨fun _ _ => trivial, ?_⟩
 rw [Oper.semAt_eq _ _ _ (notDef_spec hd)]
 unfold Oper.wp at h
 generalize (execOp a.eval o).run P w = res at h
 cases res with
 | ok x w' =>
  cases x <;> simp only [Oper.upon, Oper.uponIn] at h ⊢ <;> first
   | exact hK _ _ h
   | exact ⟨fun e => by simp [Fw, Fence.wide] at e, calls_fw (h.mono fun e w'' he => by cases e <;> first | exact hK _ _ he | exact he.elim | exact (NoPO.letsOut he).elim)⟩
   | exact ⟨fun e => by simp [Fw, Fence.wide] at e, rows_fw (h.mono fun _ _ he => hK _ _ he)⟩
   | exact h.elim
 | halt x w' => cases x <;> simp only [Oper.upon, Oper.uponIn] at h ⊢ <;> first | exact h.elim | exact h
theorem list_fw : ∀ (l : List Oper) (a : Act) (w : World), l.all notDef = true → wpList P ops (NoPO Q) l a w → wpListIn (Fw rr) 0 P ops Q l a w
 | [], _, _, _, h => h
 | o :: l, a, w, hd, h => by
  simp only [List.all_cons, Bool.and_eq_true] at hd
  simp only [wpList, wpListIn] at h ⊢
  split
  ·
   rename_i hw
   rw [if_pos hw] at h
   rcases h with h | h
   · exact op_fw hd.1 (fun a w => list_fw l a w hd.2) h
   · exact (NoPO.letsOut h.2).elim
  ·
   rename_i hw
   rw [if_neg hw] at h
   exact ⟨fun _ _ => trivial, list_fw l _ w hd.2 h⟩
theorem any_fw {md : Region.Mode} (hd : ops.toList.all notDef = true) : ∀ (fuel : Nat) (listed : Array Bool) (a : Act) (w : World), wpAny P md ops (NoPO Q) fuel listed a w → wpAnyIn (Fw rr) 0 P md ops Q fuel listed a w
 | 0, _, _, _, h => h
 | fuel + 1, listed, a, w, h => by
  refine ⟨h.1, fun i hi => ?_⟩
  have h2 := h.2 i hi
  unfold wpOp at h2
  unfold wpOpIn
  cases ho : ops[i]? with
  | none => rw [ho] at h2; exact any_fw hd fuel _ a w h2
  | some o =>
   rw [ho] at h2
   simp only at h2 ⊢
   have hdo : notDef o = true := List.all_eq_true.1 hd o (by have := Array.mem_of_getElem? ho; simpa using this)
   split
   ·
    rename_i hw
    rw [if_pos hw] at h2
    rcases h2 with h2 | h2
    · exact op_fw hdo (fun a w => any_fw hd fuel _ a w) h2
    · exact (NoPO.letsOut h2.2).elim
   ·
    rename_i hw
    rw [if_neg hw] at h2
    exact ⟨fun _ _ => trivial, any_fw hd fuel _ _ w h2⟩
end
section
variable {P : Program} {rr : Option Nat} {n : Fr} {Q : Exit → Act → World → Prop} {k : K} {w : World}
theorem We {id : Nat} {l : List Oper} (hd : l.all notDef = true) (h : VO P n l.toArray (NoPO Q) l k w) : VC (r := rr) P n (.region id l.toArray false) Q k w := fun a ha => wpIn_region_lit (list_fw l a w hd (h a ha))
theorem VC.drawsR {id : Nat} {l : List Oper} (m : Nat) (order : List (Nat × Bool)) (S : World → World → Prop) (hm : P.follows .mixedOrders = true) (hd : l.all notDef = true) (hB : Region.orderOk .any l.toArray m order = true) (hS : ∀ w1, w1 = w.drew → S w1 w1)
  (h : ∀ w1, w1 = w.drew → VH P n l.toArray (NoPO Q) (S w1) (fun a' w' => wpList P l.toArray (NoPO Q) (l.drop m) a' w') order k w1) : VC (r := rr) P n (.region id l.toArray true) Q k w :=
 fun a ha => wpIn_region_any hm (any_fw (by simpa using hd) _ _ a _ (any_of_order m order (S w.drew) hB (fun _ _ _ _ _ h => h) (hS _ rfl) (h _ rfl a ha)))
theorem Wo (h : VQ n Q .normal k w) : VQ n (NoPO Q) .normal k w := h
end
section
variable {P : Program} {n : Fr} {ops : Array Oper} {Q : Exit → Act → World → Prop} {k : K} {w : World} {rest : List Oper} {o : Oper}
def VY (P : Program) (n : Fr) (ops : Array Oper) (Q : Exit → Act → World → Prop) (l : List Oper) (k : K) (w : World) : Prop := ∀ a, Fits n k a → wpListIn (Fw none) 0 P ops Q l a w
theorem VC.regionY {id : Nat} {l : List Oper} (h : VY P n l.toArray Q l k w) : VC (r := none) P n (.region id l.toArray false) Q k w := fun a ha => wpIn_region_lit (h a ha)
theorem VY.nil (h : VQ n Q .normal k w) : VY P n ops Q [] k w := fun a ha => h a ha
theorem Rx {d : Nat} (hd : o.dst = some d) (hg : guardOk ops k o.guard = some false) (hn : Nat.blt d n.sz = true) (h : VY P n ops Q rest ((d, undef) :: k) w) : VY P n ops Q (o :: rest) k w := by
 intro a ha
 unfold wpListIn
 rw [guardOk_wanted hg ha]
 simp only [Bool.false_eq_true, if_false]
 rw [hd]
 exact ⟨fun _ _ => trivial, h _ (ha.put hn _)⟩
theorem Rw {d : Nat} {v : Value} (hr : Rn P n k w o v) (hd : o.dst = some d) (hg : guardOk ops k o.guard = some true) (hn : Nat.blt d n.sz = true)
  (h : VY P n ops Q rest ((d, v) :: k) w) : VY P n ops Q (o :: rest) k w := by
 intro a ha
 unfold wpListIn
 rw [guardOk_wanted hg ha]
 simp only [if_true]
 refine ⟨fun _ _ => trivial, ?_⟩
 show Oper.uponIn _ _ _ _ _ _ _ ((Oper.semAt none a.eval o).run P w)
 rw [Oper.semAt_none, hr a ha, Oper.uponIn_value, hd]
 exact h _ (ha.put hn _)
theorem VY.split {b : Bool} {l : List Oper} (t : Nat) (hb : kget k t = some (.bool b)) (ht : b = true → VY P n ops Q l ((t, .bool true) :: k) w) (hf : b = false → VY P n ops Q l ((t, .bool false) :: k) w) : VY P n ops Q l k w := by
 intro a ha
 have h := ha.set hb
 cases b
 · exact hf O a h
 · exact ht O a h
theorem VY.split_if {p : Prop} [Decidable p] {l : List Oper} (t : Nat) (hb : kget k t = some (.bool (decide p))) (ht : p → VY P n ops Q l ((t, .bool true) :: k) w) (hf : ¬ p → VY P n ops Q l ((t, .bool false) :: k) w) : VY P n ops Q l k w :=
 VY.split t hb (fun h => ht (of_decide_eq_true h)) (fun h => hf (of_decide_eq_false h))
theorem VY.yield {d l : Nat} {x : Operand} {xs : List Operand} {vs : List Value} {ts : Array TypeId} {ty : TypeId} {pos : String} {aft : Array Edge} {g : Option (Nat × Bool)} {R : Ending → World → Prop}
  (hx : ev k x = some (.func (.yield l) #[] #[])) (hxs : evs k xs = some vs) (hy : YieldAt Fence.wide 0 P l vs.toArray w R) (hg : guardOk ops k g = some true) (hn : Nat.blt d n.sz = true)
  (h : ∀ e w', R e w' → ∃ b, e = .returned (.bool b) ∧ VY P n ops Q rest ((d, .bool b) :: k) w') :
  VY P n ops Q ({ dst := some d, op := .call { callee := .value x, args := xs.toArray, argTypes := ts }, type := ty, pos := pos, after := aft, guard := g } :: rest) k w := by
 intro a ha
 unfold wpListIn
 rw [guardOk_wanted (o := { dst := some d, op := .call { callee := .value x, args := xs.toArray, argTypes := ts }, type := ty, pos := pos, after := aft, guard := g }) hg ha]
 simp only [if_true]
 refine ⟨fun _ _ => trivial, ?_⟩
 obtain ⟨fn, tmps, assign, body, hr, hround⟩ := hy
 have he := ha.evals hxs
 have hrun : (execOp a.eval { dst := some d, op := .call { callee := .value x, args := xs.toArray, argTypes := ts }, type := ty, pos := pos, after := aft, guard := g }).run P w = .ok (.round l fn tmps assign body) w := by
  simp [execOp, resolve, ha.eval hx, Deferred.ofValue, invoke, he, hr]
 show Oper.uponIn _ _ _ _ _ _ _ ((Oper.semAt none a.eval _).run P w)
 rw [Oper.semAt_none, hrun, Oper.uponIn_round]
 refine ⟨fun e => by simp [Fw, Fence.wide] at e, RoundIn.mono hround ?_⟩
 intro e w' he'
 obtain ⟨b, rfl, hv⟩ := h e w' he'
 exact hv _ (ha.put hn _)
end
def Gn (B : Nat) (w w' : World) : Prop := Ch (fun q => B ≤ q ∧ ∃ o, w.heap[q]? = some o ∧ o.isCells = false) w w'
theorem Gn.of {B : Nat} {w w' : World} {row : Option Nat} (h : w.grownBy w' row) (hr : ∀ r, row = some r → B ≤ r ∧ ∃ o : Obj, w.heap[r]? = some o ∧ o.isCells = false) : Gn B w w' := by
 obtain ⟨h1, h2, h3, h4, h5⟩ := h
 refine ⟨h1, h2, h3, h4, fun q x hq hx => (h5 q (blk_lt hx) (fun e => hq (hr q e.symm))).trans hx⟩
theorem notC {w : World} {q B : Nat} (h : isC w q) : ¬ (B ≤ q ∧ ∃ o, w.heap[q]? = some o ∧ o.isCells = false) := by
 obtain ⟨cs, t, fr, h⟩ := h
 rintro ⟨_, o, h1, h2⟩
 rw [h] at h1
 injection h1 with h1
 subst h1
 cases h2
section
variable {B : Nat} {w w' : World} (g : Gn B w w')
include g
theorem Bk.toG {p : Nat} {cs : Array Value} {t : TypeId} (h : Bk w p cs t) : Bk w' p cs t := h.to g (notC ⟨_, _, _, h.blk⟩)
theorem RdK.toG {S : Nat → Prop} {A : Option Addr} {ks : List Ord} (h : RdK S w A ks) : RdK S w' A ks := h.to g fun _ _ _ hx => notC hx
theorem Ch.toG {D : Nat → Prop} {w0 : World} (h : Ch D w0 w) (hB : w0.heap.size ≤ B) : Ch D w0 w' := h.then g fun q hq h => h.elim id fun ⟨hb, _⟩ => absurd hq (by omega)
end
def KpB (p : Nat) (w w' : World) : Prop := ∀ x, w.heap[p]? = some x → w'.heap[p]? = some x
theorem KpB.trans {p : Nat} {A B C : World} (h : KpB p A B) (h' : KpB p B C) : KpB p A C := fun x hx => h' x (h x hx)
theorem KpB.putObj {p B : Nat} (hp : p < B) (W : World) (l : Nat) (o o' : Obj) (hl : B ≤ l) (_ : W.heap[l]? = some o) (_ : o.isCells = false) (_ : o.isWalk = false) : KpB p W (W.putObj l o') :=
 fun x hx => (World.putObj_heap_other (by omega)).trans hx
theorem KpB.of {p : Nat} {D : Nat → Prop} {w w' : World} (c : Ch D w w') (hd : ¬ D p) : KpB p w w' := fun x hx => c.old p x hd hx
theorem VC.rangeFunc {α : Type} {P : Program} {n : Fr} {Q : Exit → Act → World → Prop} {k : K} {w : World} {g : Operand} {p d id : Nat} {ty : TypeId} {pos : String} {aft : Array Edge} {body : Code} {gf : Nat} {lb : Array Value}
  (hg : ev k g = some (.func (.func gf) #[] lb)) (eg : ∀ args w, (callFunc gf args).run P w = .ok (.enter gf args) w)
  {enc : α → Value} {Kp : World → World → Prop} {S Sp : List α → Prop} {N : Nat} {w0 : World} (hseq : SeqStopsK Fence.wide 0 P gf lb (fun x => #[enc x]) Kp S Sp N w0)
  (hKt : ∀ {A B C : World}, Kp A B → Kp B C → Kp A C) (hKb : ∀ (W : World) (l : Nat) (o o' : Obj), w.heap.size ≤ l → W.heap[l]? = some o → o.isCells = false → o.isWalk = false → Kp W (W.putObj l o')) (hb0 : Below w0.heap.size w0 w)
  (hp : Nat.blt p n.sz = true) (hd : Nat.blt d n.sz = true)
  (I : List α → World → Prop) (Ix : Code → List α → World → Prop) (hI : OwnFrom w.heap.size I) (hIx : ∀ c, OwnFrom w.heap.size (Ix c)) (h0 : I [] w)
  (hbody : ∀ (l : Nat) (pre : List α) (x : α) (W : World), I pre W → pre.length < N → VC (r := some l) P ⟨n.sz, []⟩ body (ownPostG w.heap.size Kp I Ix (pre ++ [x]) W) ((d, enc x) :: (p, enc x) :: k) W)
  (hdone : ∀ (D : Nat) (xs : List α) (W : World), w.heap.size ≤ D → S xs → I xs W → W.heap[D]? = some (.deferred (some [])) → VQ ⟨n.sz, { target := .collected D, args := #[] } :: n.ds⟩ Q .normal k W)
  (hstop : ∀ (D : Nat) (c : Code) (pre : List α) (W : World), w.heap.size ≤ D → Sp pre → Ix c pre W → W.heap[D]? = some (.deferred (some [])) → VC (r := none) P ⟨n.sz, { target := .collected D, args := #[] } :: n.ds⟩ c Q k W) :
  VC (r := none) P n (.rangeFunc g #[p] (.region id #[{ dst := some d, op := .assign (.tmp p), type := ty, pos := pos, after := aft, guard := none }] false) body) Q k w := by
 intro a ha
 have hpn : p < n.sz := by simpa [Nat.blt_eq] using hp
 have hdn : d < n.sz := by simpa [Nat.blt_eq] using hd
 have key : ∀ m, (Code.rangeFunc g #[p] (.region id #[{ dst := some d, op := .assign (.tmp p), type := ty, pos := pos, after := aft, guard := none }] false) body).wpIn Fence.wide 1 P Q a w → (Code.rangeFunc g #[p] (.region id #[{ dst := some d, op := .assign (.tmp p), type := ty, pos := pos, after := aft, guard := none }] false) body).wpIn (Fw none) m P Q a w :=
  fun m h => (wpIn_wide (n := m)).2 (wpIn_wide.1 h)
 refine key 0 ?_
 have hfr : ∀ (x : α), Fits ⟨n.sz, []⟩ ((d, enc x) :: (p, enc x) :: k) { tmps := (a.tmps.setIfInBounds p (enc x)).setIfInBounds d (enc x), defers := [] } := by
  intro x
  have h1 : Fits ⟨n.sz, []⟩ k { tmps := a.tmps, defers := [] } := ⟨rfl, ha.size, ha.known⟩
  exact (h1.put (d := p) (by simpa using hp) (enc x)).put (d := d) (by simpa using hd) (enc x)
 refine wpIn_rangeFunc_ownG O (Nat.le_refl _) (ha.eval hg) trivial eg (n := 1) hseq hKt hKb hb0 (fun _ => rfl) I Ix hI hIx h0 (fun x => { tmps := (a.tmps.setIfInBounds p (enc x)).setIfInBounds d (enc x), defers := [] }) ?_ ?_ ?_ ?_
 ·
  intro l x W K hK
  refine wpIn_region_lit (l := [_]) ?_
  simp only [wpListIn, Region.wanted, if_true]
  refine ⟨fun _ _ => trivial, ?_⟩
  rw [Oper.semAt_eq _ _ _ (by intro c e; cases e)]
  have hps : p < a.tmps.size := by rw [ha.size]; exact hpn
  simp [execOp, Oper.uponIn, Act.put, Act.eval, Exit.then, hps]
  exact hK
 ·
  intro l pre x W hi hl
  exact hbody l pre x W hi hl _ (hfr x)
 ·
  intro D xs W hD hS hi hk
  exact hdone D xs W hD hS hi hk _ ⟨by simp [ha.defers], ha.size, ha.known⟩
 ·
  intro D c pre W hD hS hi hk
  exact wpIn_wide.2 (wpIn_none.1 (hstop D c pre W hD hS hi hk _ ⟨by simp [ha.defers], ha.size, ha.known⟩))
theorem Kv {P : Program} {n : Nat} {f : FuncId} {fn : Func} {c : Code} {args : List Value} {w : World} {R : Ending → World → Prop} (hf : P.funcs[f]? = some fn) (hb : fn.body = some c) (hn : fn.ntmps = n)
  (hlen : Nat.ble args.length n = true) (h : VC (r := none) P ⟨n, []⟩ c (bodyPostM Fence.wide 0 P fn R) (kargs args 0) w) : Calls P f args.toArray w R := by
 refine callsIn_wide.1 (callsIn_of_wp_marks (n := 0) hf hb trivial (h _ ?_))
 have hl : args.length ≤ n := Nat.le_of_ble_eq_true hlen
 refine ⟨O, by simp [hn]; omega, fun i v hi => ?_⟩
 obtain ⟨_, h2⟩ := kargs_known args 0 i v hi
 rw [Nat.sub_zero] at h2
 have hlt : i < args.length := (List.getElem?_eq_some_iff.1 h2).1
 rw [Array.getElem?_append_left (by simpa using hlt)]
 simpa using h2
section
variable {P : Program} {m : Nat} {k : K} {w : World} {fn : Func} {R : Ending → World → Prop}
theorem VQ.toM (h : VQ ⟨m, []⟩ (bodyPost P fn R) .ret k w) : VQ ⟨m, []⟩ (bodyPostM Fence.wide 0 P fn R) .ret k w := by
 intro a ha
 obtain ⟨hd, hv⟩ := h a ha
 show LeavesInM _ _ _ _ _ _ a.defers _ _
 rw [hd]
 exact hv
theorem VQ.dropD {D : Nat} (hD : w.heap[D]? = some (.deferred (some []))) (h : ∀ w', w' = w.putObj D (.deferred none) → VQ ⟨m, []⟩ (bodyPostM Fence.wide 0 P fn R) .ret k w') : VQ ⟨m, [{ target := .collected D, args := #[] }]⟩ (bodyPostM Fence.wide 0 P fn R) .ret k w := by
 intro a ha
 have h1 := h _ rfl { a with defers := [] } ⟨rfl, ha.size, ha.known⟩
 show LeavesInM _ _ _ _ _ _ a.defers _ _
 rw [ha.defers]
 exact ⟨by simp, .inl ⟨_, _, O, run_takeDeferred hD, h1⟩⟩
theorem Gn.put {B D : Nat} {o : Obj} (hD : w.heap[D]? = some (.deferred (some []))) (hB : B ≤ D) : Gn B w (w.putObj D o) := Gn.of (grownBy_putObj' _ _ _) (fun r e => by cases e; exact ⟨hB, _, hD, rfl⟩)
end
structure Df (w : World) (D : Nat) : Prop where
  blk : w.heap[D]? = some (.deferred (some []))
theorem Df.to {w w' : World} {p : Nat} (h : Df w p) {D : Nat → Prop} (c : Ch D w w') (hd : ¬ D p := by first | exact id | omega) : Df w' p := ⟨c.old _ _ hd h.blk⟩
theorem Df.keep {w w' : World} {p : Nat} (h : Df w p) (c : Ch No w w') : Df w' p := h.to c id
theorem VQ.roundF {α : Type} {n : Fr} {k : K} {W w' : World} {B : Nat} {Kp : World → World → Prop} {I : List α → World → Prop} {Ix : Code → List α → World → Prop} {xs : List α} {D : Nat → Prop} (hc : Ch D W w') (hD : ∀ q, D q → q < B) (hk : Kp W w') (hI : I xs w') :
  VQ n (ownPostG B Kp I Ix xs W) .normal k w' := fun _ _ => ⟨⟨hc.size, fun q o hB hq _ => hc.old q o (fun h => by have := hD q h; omega) hq⟩, hk, hI⟩
end Go.Tm
namespace Go.Tm
def upGo (n : Int) : Nat → List Int
 | 0 => []
 | c + 1 => upGo n c ++ (if n % ((c : Int) + 1) = 0 then [(c : Int) + 1] else [])
def dnGo (n : Int) (e : Nat) : Nat → List Int
 | 0 => []
 | c + 1 => dnGo n e c ++ (if n % ((e : Int) - c) = 0 ∧ n / ((e : Int) - c) ≥ (e : Int) - c then [n / ((e : Int) - c)] else [])
def divsAt (n : Int) (e : Nat) : List Int := upGo n (e - 1) ++ dnGo n e e
def DivE (n : Int) (e : Nat) : Prop := 1 ≤ e ∧ (e = 1 ∨ ((e : Int) - 1) * ((e : Int) - 1) < n) ∧ n ≤ (e : Int) * e
theorem upGo_len (n : Int) : ∀ c, (upGo n c).length ≤ c
 | 0 => by simp [upGo]
 | c + 1 => by
  have := upGo_len n c
  simp only [upGo, List.length_append]
  split <;> simp <;> omega
theorem dnGo_len (n : Int) (e : Nat) : ∀ c, (dnGo n e c).length ≤ c
 | 0 => by simp [dnGo]
 | c + 1 => by
  have := dnGo_len n e c
  simp only [dnGo, List.length_append]
  split <;> simp <;> omega
theorem sq_lt {c : Nat} {n : Int} (h : (c : Int) * c < n) (hn : n ≤ 4294967296) : c < 65536 := by
 rcases Nat.lt_or_ge c 65536 with h1 | h1
 · exact h1
 ·
  have := Int.mul_le_mul (show (65536 : Int) ≤ c by omega) (show (65536 : Int) ≤ c by omega) (by omega) (by omega)
  omega
theorem sq_le {c : Int} (h0 : 0 ≤ c := by omega) (h1 : c ≤ 65537 := by omega) : 0 ≤ c * c ∧ c * c ≤ 4295098369 :=
 ⟨Int.mul_nonneg h0 h0, Int.le_trans (Int.mul_le_mul h1 h1 h0 (by omega)) (by decide)⟩
theorem quo_bd {n d : Int} (h0 : 0 ≤ n) (h1 : 1 ≤ d) : 0 ≤ n / d ∧ n / d ≤ n := ⟨Int.ediv_nonneg h0 (by omega), Int.ediv_le_self d h0⟩
theorem DivE.mk' {n : Int} {c : Nat} (hc : c = 0 ∨ (c : Int) * c < n) (h : ¬ ((c : Int) + 1) * ((c : Int) + 1) < n) : DivE n (c + 1) := by
 refine ⟨by omega, ?_, ?_⟩
 ·
  rcases hc with rfl | hc
  · exact .inl O
  ·
   right
   simpa using hc
 ·
  simp only [Int.natCast_add, Int.natCast_one]
  omega
theorem divE_ok {n d : Int} (h1 : 1 ≤ n) (hd : 1 ≤ d) (h : n % d = 0) : 1 ≤ n / d ∧ n / d ≤ n ∧ n % (n / d) = 0 := by
 have e : n / d * d = n := Int.ediv_mul_cancel (Int.dvd_of_emod_eq_zero h)
 have h2 := quo_bd (show 0 ≤ n by omega) hd
 have h3 : n / d ≠ 0 := by intro e0; rw [e0] at e; omega
 refine ⟨by omega, h2.2, ?_⟩
 exact Int.emod_eq_zero_of_dvd ⟨d, e.symm⟩
end Go.Tm
namespace Go.Tm
set_option maxRecDepth 100000
open Go.RowKit Go.Proofs Go.Proofs.Tryz
theorem divisors1 (l pd : Nat) (n : Int) (h1 : 1 ≤ n) (h2 : n ≤ 4294967296) (J Jx : List Int → World → Prop) (W : World) (hY : ∀ (pre : List Int) (x : Int) W1, (1 ≤ x ∧ x ≤ n ∧ n % x = 0) → J pre W1 → pre.length < 200000 → YieldAt Fence.wide 0 prog l #[Kg x] W1 fun e W' => (e = .returned (.bool true) ∧ J (pre ++ [x]) W' ∧ KpB pd W1 W') ∨ (e = .returned (.bool false) ∧ Jx (pre ++ [x]) W')) (hb : Bk W pd #[Kg n] 3) (hJ : J [] W) :
  Calls prog 192 #[.func (.yield l) #[] #[], Kh pd] W (Ret (fun _ w' => (∃ xs, (∃ e, DivE n e ∧ xs = divsAt n e) ∧ J xs w') ∨ ∃ pre, Jx pre w')) := by
 refine Ku func192 O ntmps192 O (Qe (Kb (Om (Qg ι3 O (hb.cell O)) O (Om (Co O O) O (Wu O O ?_)))))
 refine Cz (b := _) 3 6 9 O (fun hc1 Jhc1 => by
   refine Oy O (Oy O (Om (Qr O O) O ?_))
   exact (Qo O (Qo O Jhc1))) (fun hc1 Jhc1 => by
   try simp only [bX] at hc1
   refine Om (Qg ι3 O (hb.cell O)) O (Om (Rb O O) O (Om (Qm O O) O ?_))
   exact (Qo O (Qo O Jhc1))) ?_
 refine Ka (Cq O (fun hc2 => ?_) (fun hc2 => ?_))
 ·
  try simp only [bX] at hc2
  omega
 try simp only [bX] at hc2
 refine Qn (Qa (Kb (Ww O O (Wz ?_))))
 refine Qt (Kf (σ := Nat) (fun c => [(0, .func (.yield l) #[] #[]), (1, Kh pd), (3, Kg ((c : Int) + 1))]) (fun c w' => Bk w' pd #[Kg n] 3 ∧ J (upGo n c) w' ∧ (c = 0 ∨ (c : Int) * c < n) ∧ c ≤ 65536) (fun c => 65537 - c) 0 ?_ ?_)
 · exact ⟨hb, hJ, .inl O, by omega⟩
 rintro c w1 ⟨hb_1, hJ, hc, hc0⟩
 have hs := sq_le (c := (c : Int) + 1); have hs2 := Int.mul_le_mul_of_nonneg_left (show (1 : Int) ≤ (c : Int) + 1 by omega) (show (0 : Int) ≤ (c : Int) + 1 by omega)
 refine Qe (Kb (Wu O O (Wu O O ?_)))
 refine Om (Cy O O) O ?_
 refine Om (Qg ι3 O (hb_1.cell O)) O (Om (Co O O) O (Ka (Qj O (fun hc3 => ?_) (fun hc3 => ?_))))
 ·
  refine Qn (Qa (Qe (Qt (Qe (VC.regionY (Rw (Qg ι3 O (hb_1.cell O)) O O O (Rw (Qc O) O O O ?_)))))))
  refine Rw (Rq O O) O O O (Rw (Cg O O) O O O (Rw (Qc O) O O O (VY.split_if 21 O (fun hc4 => ?_) (fun hc4 => ?_))))
  ·
   refine Rw (Qc O) O O O (Rw (Qc O) O O O ?_)
   refine VY.yield O O (hY (upGo n c) ((c : Int) + 1) _ ⟨by omega, by omega, hc4⟩ hJ (by have := upGo_len n c; omega)) O O ?_
   rintro _ w2 (⟨rfl, hJy, hky⟩ | ⟨rfl, hJy⟩)
   ·
    refine ⟨_, O, ?_⟩
    have hb_2 : Bk w2 pd #[Kg n] 3 := ⟨hky _ hb_1.blk⟩
    refine Rw (Rm O) O O O (Rw (Qr O O) O O O (VY.nil (Qa (Cc O (Qn (Ql (Qa ?_)))))))
    refine Qb (Wu O O ?_)
    refine Om (Cd O O) O ?_
    refine Ww O O (Qf ?_)
    refine Ke (c + 1) ?_
    refine ⟨hb_2, ?_, .inr hc3, ?_⟩
    · simp only [upGo, if_pos hc4]; exact hJy
    · have := sq_lt (c := c + 1) hc3 h2; omega
   ·
    refine ⟨_, O, ?_⟩
    refine Rw (Rm O) O O O (Rw (Qr O O) O O O (VY.nil (Qa (Rd O (Qp (Cb (Qw ?_)))))))
    refine Qw (Cb (Qw (VQ.ret0 O (Kx ?_))))
    exact .inr ⟨_, hJy⟩
  refine Rx O O O (Rx O O O (Rx O O O (Rx O O O (Rw (Qm O O) O O O (VY.nil (Qa (Cc O ?_)))))))
  refine Qn (Ql (Qa (Qb (Wu O O ?_))))
  refine Om (Cd O O) O ?_
  refine Ww O O (Qf ?_)
  refine Ke (c + 1) ?_
  refine ⟨hb_1, ?_, .inr hc3, ?_⟩
  · simp only [upGo, if_neg hc4, List.append_nil]; exact hJ
  · have := sq_lt (c := c + 1) hc3 h2; omega
 refine Cn (Qk (Qk (Qy (Qa (Qt ?_)))))
 obtain ⟨e, he⟩ : ∃ e, e = c + 1 := ⟨_, rfl⟩
 have hE : DivE n e := by subst he; exact DivE.mk' hc hc3
 refine Kf (σ := Int) (fun d => [(0, .func (.yield l) #[] #[]), (1, Kh pd), (3, Kg d)]) (fun d w' => Bk w' pd #[Kg n] 3 ∧ J (upGo n (e - 1) ++ dnGo n e ((e : Int) - d).toNat) w' ∧ 0 ≤ d ∧ d ≤ e) (fun d => d.toNat) ((c : Int) + 1) ?_ ?_
 · exact ⟨hb_1, by subst he; simpa [dnGo] using hJ, by omega, by omega⟩
 rintro d w3 ⟨hb_3, hJ, hd, hd2⟩
 have hl1 := upGo_len n (e - 1); have hl2 := dnGo_len n e ((e : Int) - d).toNat
 refine Qe (Kb (Wu O O (Om (Rb O O) O (Ka (Qj O (fun hc5 => ?_) (fun hc5 => ?_))))))
 ·
  refine Qn (Qa (Qe (Qt (Qe (VC.regionY (Rw (Qg ι3 O (hb_3.cell O)) O O O (Rw (Qc O) O O O ?_)))))))
  refine Rw (Rq O O) O O O (Rw (Cg O O) O O O (Rw (Qc O) O O O (VY.split_if 35 O (fun hc6 => ?_) (fun hc6 => ?_))))
  ·
   refine Rw (Qg ι3 O (hb_3.cell O)) O O O (Rw (Qc O) O O O (Rw (Wc O O (by omega) (by omega) (by omega)) O O O (Rw (Qc O) O O O (Rw (Ry O O) O O O (Rw (Qr O O) O O O (Rw (Qc O) O O O (VY.split_if 42 O (fun hc7 => ?_) (fun hc7 => ?_))))))))
   ·
    refine Rw (Qc O) O O O (Rw (Qg ι3 O (hb_3.cell O)) O O O (Rw (Qc O) O O O (Rw (Wc O O (by omega) (by omega) (by omega)) O O O ?_)))
    refine VY.yield O O (hY (upGo n (e - 1) ++ dnGo n e ((e : Int) - d).toNat) (n / d) _ (divE_ok h1 (by omega) hc6) hJ (by have := @List.length_append _ (upGo n (e - 1)) (dnGo n e ((e : Int) - d).toNat); omega)) O O ?_
    rintro _ w4 (⟨rfl, hJy, hky⟩ | ⟨rfl, hJy⟩)
    ·
     refine ⟨_, O, ?_⟩
     have hb_4 : Bk w4 pd #[Kg n] 3 := ⟨hky _ hb_3.blk⟩
     refine Rw (Rm O) O O O (Rw (Qr O O) O O O (VY.nil (Qa (Cc O (Qn (Ql (Qa ?_)))))))
     refine Qb (Wu O O ?_)
     refine Om (Rg O O) O ?_
     refine Ww O O (Qf ?_)
     refine Ke (d - 1) ?_
     have ec : ((e : Int) - (d - 1)).toNat = ((e : Int) - d).toNat + 1 := by omega
     have e2 : (e : Int) - (((e : Int) - d).toNat : Int) = d := by omega
     refine ⟨hb_4, ?_, by omega, by omega⟩
     rw [ec]; simp only [dnGo]; rw [e2]
     rw [if_pos ⟨hc6, hc7⟩, ← List.append_assoc]; exact hJy
    ·
     refine ⟨_, O, ?_⟩
     refine Rw (Rm O) O O O (Rw (Qr O O) O O O (VY.nil (Qa (Rd O (Qp (Cb (Qw ?_)))))))
     refine Qw (Cb (VQ.ret0 O (Kx ?_)))
     exact .inr ⟨_, hJy⟩
   refine Rx O O O (Rx O O O (Rx O O O (Rx O O O (Rx O O O (Rx O O O (Rw (Qm O O) O O O (VY.nil ?_)))))))
   refine Qa (Cc O (Qn (Ql (Qa (Qb (Wu O O ?_))))))
   refine Om (Rg O O) O ?_
   refine Ww O O (Qf ?_)
   refine Ke (d - 1) ?_
   have ec : ((e : Int) - (d - 1)).toNat = ((e : Int) - d).toNat + 1 := by omega
   have e2 : (e : Int) - (((e : Int) - d).toNat : Int) = d := by omega
   refine ⟨hb_3, ?_, by omega, by omega⟩
   rw [ec]; simp only [dnGo]; rw [e2]
   rw [if_neg (fun h => hc7 h.2), List.append_nil]; exact hJ
  refine Rx O O O (Rx O O O (Rx O O O (Rx O O O (Rx O O O (Rw (Qm O O) O O O (Rw (Qc O) O O O (Rx O O O ?_)))))))
  refine Rx O O O (Rx O O O (Rx O O O (Rx O O O (Rx O O O (Rw (Qm O O) O O O (VY.nil (Qa ?_)))))))
  refine Cc O (Qn (Ql (Qa (Qb (Wu O O ?_)))))
  refine Om (Rg O O) O ?_
  refine Ww O O (Qf ?_)
  refine Ke (d - 1) ?_
  have ec : ((e : Int) - (d - 1)).toNat = ((e : Int) - d).toNat + 1 := by omega
  have e2 : (e : Int) - (((e : Int) - d).toNat : Int) = d := by omega
  refine ⟨hb_3, ?_, by omega, by omega⟩
  rw [ec]; simp only [dnGo]; rw [e2]
  rw [if_neg (fun h => hc6 h.1), List.append_nil]; exact hJ
 refine Cn (Qk (Qk (Qy (Rp O (Kx ?_)))))
 have hd0 : d = 0 := by omega
 subst hd0
 exact .inl ⟨divsAt n e, ⟨e, hE, O⟩, by simpa [divsAt] using hJ⟩
abbrev Dv (n : Int) := { x : Int // 1 ≤ x ∧ x ≤ n ∧ n % x = 0 }
theorem divisors_stops (n : Int) (pd : Nat) (w0 : World) (h1 : 1 ≤ n) (h2 : n ≤ 4294967296) (hb : Bk w0 pd #[.int .i64 n] 3) :
  SeqStopsK Fence.wide 0 prog 192 #[.pointer (some ⟨pd, 0, none⟩)] (fun x : Dv n => #[.int .i64 x.1]) (KpB pd) (fun xs => ∃ e, DivE n e ∧ xs.map (·.1) = divsAt n e) (fun _ => True) 200000 w0 := by
 intro l J Jx W hW hJ hJx hY h0
 refine callsIn_wide.2 ?_
 have hb' : Bk W pd #[.int .i64 n] 3 := ⟨(hW.block pd hb.lt).trans hb.blk⟩
 refine (divisors1 l pd n h1 h2 (fun l' w => ∃ xs : List (Dv n), xs.map (·.1) = l' ∧ J xs w) (fun l' w => ∃ xs : List (Dv n), Jx xs w) W ?_ hb' ⟨[], O, h0⟩).mono ?_
 ·
  rintro pre x W1 hx ⟨xs, rfl, hj⟩ hlen
  obtain ⟨fn, tmps, assign, body, hy, hr⟩ := hY xs ⟨x, hx⟩ W1 hj (by simpa using hlen)
  refine ⟨fn, tmps, assign, body, hy, hr.mono ?_⟩
  rintro e W' (⟨rfl, h3, h4⟩ | ⟨rfl, h3⟩)
  · exact .inl ⟨O, ⟨_, by simp, h3⟩, h4⟩
  · exact .inr ⟨O, _, h3⟩
 ·
  rintro e W' ⟨v, rfl, (⟨xs, hS, xs', h3, h4⟩ | ⟨pre, xs', h3⟩)⟩
  ·
   obtain ⟨e, he, rfl⟩ := hS
   exact ⟨⟨_, O⟩, .inl ⟨xs', ⟨e, he, h3⟩, h4⟩⟩
  · exact ⟨⟨_, O⟩, .inr ⟨xs', trivial, h3⟩⟩
theorem primes_Divisors (n : Int) (w : World) :
  Calls prog 156 #[Kg n] w (Ret (fun v w' => ∃ pd, v = .func (.func 192) #[] #[Kh pd] ∧ Bk w' pd #[Kg n] 3 ∧ w.heap.size ≤ pd ∧ Ch No w w')) := by
 refine Ku func156 O ntmps156 O (Kb (Km (Cp O) O ?_))
 intro p1 w1 b1 c1 e1 z1
 refine Ww O O (Wy (Om (Rn.func O O) O (Ww O O (Qf ?_))))
 refine Qa (Qp (Qx O O (Kx ?_)))
 have CH_1 := c1
 exact ⟨_, O, b1, by omega, CH_1⟩
end Go.Tm
namespace Go.Tm
structure Pol where
  direct : Int
  flies : List Int
  prime : Int
def headsM (P : Pol) (a : Int) : List Ord := (if a ≤ P.direct then [.mk 1 a []] else []) ++ (if P.flies.contains a then [.mk 2 a []] else [])
theorem mem_heads {P : Pol} {a : Int} {o : Ord} (h : o ∈ headsM P a) : (o.kind = 1 ∨ o.kind = 2) ∧ o.n = a ∧ o.kids = [] := by
 unfold headsM at h
 rw [List.mem_append] at h
 rcases h with h | h <;> split at h <;> simp at h <;> subst h <;> simp [Ord.kind, Ord.n, Ord.kids]
theorem contains_snoc {l : List Int} {x y : Int} (h : l.contains x = false) (hy : ¬ x = y) : (l ++ [y]).contains x = false := by
 rw [Bool.eq_false_iff] at h ⊢
 simpa [hy] using h
def PolOk (P : Pol) : Prop := 2 ≤ P.direct ∧ P.direct ≤ 64 ∧ 2 ≤ P.prime ∧ P.prime ≤ P.direct ∧ (∀ i : Nat, ∀ r, P.flies[i]? = some r → (if i = 0 then 1 else P.flies.getD (i - 1) 0) < r ∧ r ≤ 5)
def divO : Nat → Int → Int → List Int → Int × List Int
 | 0, n, _, l => (n, l)
 | f + 1, n, p, l => if n % p = 0 then divO f (n / p) p (l ++ [p]) else (n, l)
def facO : Nat → Int → Int → List Int → List Int
 | 0, _, _, l => l
 | f + 1, n, p, l => if p * p ≤ n then facO f (divO 15 n p l).1 (p + 1) (divO 15 n p l).2 else if n > 1 then l ++ [n] else l
def facs (n : Int) : List Int := facO 200 n 2 []
theorem divO_stop {g : Nat} {m p : Int} {l : List Int} (h : ¬ m % p = 0) : divO g m p l = (m, l) := by
 cases g with
 | zero => rfl
 | succ g => rw [divO, if_neg h]
theorem g_pos {g : Nat} {m : Int} (h1 : 1 ≤ m) (h2 : m < 2 ^ g) : ∃ g', g = g' + 1 := by
 cases g with
 | zero => simp at h2; omega
 | succ g => exact ⟨g, rfl⟩
theorem sq_mono {p q : Int} (h0 : 0 ≤ p := by omega) (h : p ≤ q := by omega) : p * p ≤ q * q := Int.mul_le_mul h h h0 (by omega)
theorem div_half {n p m : Int} (hp : 2 ≤ p) (hn : 1 ≤ n) (h : n % p = 0) (hm : n < 2 * m) : 1 ≤ n / p ∧ n / p < m ∧ n / p ≤ n := by
 have h1 : n / p * p = n := Int.ediv_mul_cancel (Int.dvd_of_emod_eq_zero h)
 have h2 : 0 ≤ n / p := Int.ediv_nonneg (by omega) (by omega)
 have h3 : 0 < n / p := by
  rcases Int.lt_or_eq_of_le h2 with h | h
  · exact h
  · rw [← h] at h1; omega
 have h4 : 2 * (n / p) ≤ n := by
  have := Int.mul_le_mul_of_nonneg_left hp h2
  omega
 omega
def offerM (b : Ord × Int) (o : Ord) (c : Int) : Ord × Int := if b.2 < 0 ∨ c < b.2 then (o, c) else b
def best0 (P : Pol) (n : Int) : Ord × Int := (headsM P n).foldl (fun b o => offerM b o (lcost o.kind o.n)) (.mk 0 0 [], -1)
def offerH (n a : Int) (r : Ord × Int) (b : Ord × Int) (h : Ord) : Ord × Int := if r.2 ≥ 0 then offerM b (.mk 3 0 [h, r.1]) (timesC a (n / a) (lcost h.kind h.n) r.2 (decide (h.kind = 2))) else b
def stepM (rec : Int → Option (Ord × Int)) (P : Pol) (n : Int) (b : Ord × Int) (a : Int) : Option (Ord × Int) :=
 if a < 2 ∨ a = n then some b else if headsM P a = [] then some b else
  match rec (n / a) with
  | none => none
  | some r => some ((headsM P a).foldl (offerH n a r) b)
def IsP2 (x m : Int) : Prop := (∃ j : Nat, m = 2 ^ j) ∧ x ≤ m ∧ ∀ j : Nat, x ≤ 2 ^ j → m ≤ 2 ^ j
def hardM (P : Pol) (fs : List Int) (n : Int) : Bool := fs.any (fun q => decide (q > P.prime)) && decide (n ≤ 8192)
def goM (rec : Int → Option (Ord × Int)) (P : Pol) (n : Int) : List Int → Ord × Int → Option (Ord × Int)
 | [], b => some b
 | a :: t, b => match stepM rec P n b a with
  | none => none
  | some b' => goM rec P n t b'
theorem stepM_mono {rec rec' : Int → Option (Ord × Int)} (h : ∀ n r, rec n = some r → rec' n = some r) {P : Pol} {n a : Int} {b r : Ord × Int} (hs : stepM rec P n b a = some r) : stepM rec' P n b a = some r := by
 unfold stepM at *
 split
 · rename_i h1; rw [if_pos h1] at hs; exact hs
 ·
  rename_i h1
  rw [if_neg h1] at hs
  split
  · rename_i h2; rw [if_pos h2] at hs; exact hs
  ·
   rename_i h2
   rw [if_neg h2] at hs
   cases hr : rec (n / a) with
   | none => rw [hr] at hs; cases hs
   | some x => rw [hr] at hs; rw [h _ _ hr]; exact hs
theorem goM_mono {rec rec' : Int → Option (Ord × Int)} (h : ∀ n r, rec n = some r → rec' n = some r) {P : Pol} {n : Int} : ∀ {l : List Int} {b r : Ord × Int}, goM rec P n l b = some r → goM rec' P n l b = some r
 | [], _, _, hs => hs
 | a :: t, b, r, hs => by
  simp only [goM] at hs ⊢
  cases h1 : stepM rec P n b a with
  | none => rw [h1] at hs; cases hs
  | some b' => rw [h1] at hs; rw [stepM_mono h h1]; exact goM_mono h hs
theorem goM_snoc {rec : Int → Option (Ord × Int)} {P : Pol} {n : Int} : ∀ {l : List Int} {a : Int} {b r r' : Ord × Int}, goM rec P n l b = some r → stepM rec P n r a = some r' → goM rec P n (l ++ [a]) b = some r'
 | [], a, b, r, r', h, hs => by
  simp only [goM] at h
  injection h with h
  subst h
  simp only [List.nil_append, goM, hs]
 | x :: t, a, b, r, r', h, hs => by
  simp only [goM, List.cons_append] at h ⊢
  cases h1 : stepM rec P n b x with
  | none => rw [h1] at h; cases h
  | some b' => rw [h1] at h; exact goM_snoc h hs
def isq (n : Int) : Nat := ((List.range 200).find? fun e : Nat => decide (n ≤ (e : Int) * e) && decide (1 ≤ e)).getD 0
theorem isq_eq {n : Int} {e : Nat} (h : DivE n e) (hn : n ≤ 16384) : e = isq n := by
 obtain ⟨h1, h2, h3⟩ := h
 have he : e ≤ 128 := by
  rcases Nat.lt_or_ge 128 e with h | h
  ·
   exfalso
   rcases h2 with h2 | h2
   · omega
   ·
    have := Int.mul_le_mul (show (128 : Int) ≤ (e : Int) - 1 by omega) (show (128 : Int) ≤ (e : Int) - 1 by omega) (by omega) (by omega)
    omega
  · exact h
 unfold isq
 have hf : (List.range 200).find? (fun e : Nat => decide (n ≤ (e : Int) * e) && decide (1 ≤ e)) = some e := by
  rw [List.find?_range_eq_some]
  refine ⟨by simp [h1, h3], by simp; omega, ?_⟩
  intro j hj
  simp only [Bool.not_eq_true', Bool.and_eq_false_iff, decide_eq_false_iff_not]
  by_cases hj0 : j = 0
  · right; omega
  ·
   left
   rcases h2 with h2 | h2
   · omega
   ·
    have := Int.mul_le_mul (show (j : Int) ≤ (e : Int) - 1 by omega) (show (j : Int) ≤ (e : Int) - 1 by omega) (by omega) (by omega)
    omega
 rw [hf]
 rfl
def up2Go (x : Int) : Nat → Int → Int
 | 0, m => m
 | f + 1, m => if x ≤ m then m else up2Go x f (2 * m)
def up2 (x : Int) : Int := up2Go x 40 1
theorem up2Go_spec {x : Int} : ∀ (f j : Nat), x ≤ 2 ^ (j + f) → (∀ i : Nat, x ≤ 2 ^ i → (2 : Int) ^ j ≤ 2 ^ i) → IsP2 x (up2Go x f (2 ^ j))
 | 0, j, h, hi => ⟨⟨j, rfl⟩, h, hi⟩
 | f + 1, j, h, hi => by
  rw [up2Go]
  split
  ·
   rename_i h1
   exact ⟨⟨j, O⟩, h1, hi⟩
  ·
   rename_i h1
   have e : (2 : Int) * 2 ^ j = 2 ^ (j + 1) := by rw [Int.pow_succ]; omega
   rw [e]
   refine up2Go_spec f (j + 1) (by rw [show j + 1 + f = j + (f + 1) by omega]; exact h) fun i hx => ?_
   have h2 := hi i hx
   rcases Nat.lt_or_ge j i with hji | hji
   · exact_mod_cast Nat.pow_le_pow_right (by omega : 0 < 2) hji
   ·
    have h3 : (2 : Int) ^ i ≤ 2 ^ j := by exact_mod_cast Nat.pow_le_pow_right (by omega : 0 < 2) hji
    omega
theorem up2_spec {x : Int} (h0 : 1 ≤ x := by omega) (h : x ≤ 1073741824 := by omega) : IsP2 x (up2 x) :=
 up2Go_spec 40 0 (Int.le_trans h (by decide)) fun i _ => by
  have : 0 < (2 : Int) ^ i := Int.pow_pos (by omega)
  simp
  omega
theorem up2_pos {x : Int} (h0 : 1 ≤ x := by omega) (h : x ≤ 1073741824 := by omega) : 1 ≤ up2 x := by have := (up2_spec h0 h).2.1; omega
theorem up2_le {x : Int} {j : Nat} (h0 : 1 ≤ x := by omega) (h : x ≤ 1073741824 := by omega) (hj : x ≤ 2 ^ j := by omega) : up2 x ≤ 2 ^ j := (up2_spec h0 h).2.2 j hj
def bestF (P : Pol) : Nat → Int → Option (Ord × Int)
 | 0, _ => none
 | f + 1, n =>
  match goM (bestF P f) P n (divsAt n (isq n)) (best0 P n) with
  | none => none
  | some b => if hardM P (facs n) n then
    match bestF P f (up2 (2 * n - 1)) with
    | none => none
    | some x => some (offerM b (.mk 4 n [x.1]) (blueC n (up2 (2 * n - 1)) x.2))
   else some b
theorem bestF_succ {P : Pol} : ∀ (f : Nat) (n : Int) (r : Ord × Int), bestF P f n = some r → bestF P (f + 1) n = some r
 | 0, n, r, h => by simp [bestF] at h
 | f + 1, n, r, h => by
  have ih := bestF_succ (P := P) f
  rw [bestF] at h ⊢
  cases h1 : goM (bestF P f) P n (divsAt n (isq n)) (best0 P n) with
  | none => rw [h1] at h; cases h
  | some b =>
   rw [h1] at h
   rw [goM_mono ih h1]
   simp only at h ⊢
   split
   ·
    rename_i h2
    rw [if_pos h2] at h
    cases h3 : bestF P f (up2 (2 * n - 1)) with
    | none => rw [h3] at h; cases h
    | some x => rw [h3] at h; rw [ih _ _ h3]; exact h
   ·
    rename_i h2
    rw [if_neg h2] at h
    exact h
theorem bestF_le {P : Pol} {f g : Nat} {n : Int} {r : Ord × Int} (hfg : f ≤ g) (h : bestF P f n = some r) : bestF P g n = some r := by
 induction hfg with
 | refl => exact h
 | step _ ih => exact bestF_succ _ _ _ ih
def Best (P : Pol) (n : Int) (r : Ord × Int) : Prop := ∃ f, bestF P f n = some r
theorem Best.unique {P : Pol} {n : Int} {r r' : Ord × Int} (h : Best P n r) (h' : Best P n r') : r = r' := by
 obtain ⟨f, h⟩ := h
 obtain ⟨g, h'⟩ := h'
 have h1 := bestF_le (Nat.le_max_left f g) h
 have h2 := bestF_le (Nat.le_max_right f g) h'
 rw [h1] at h2
 injection h2
def GoB (P : Pol) (n : Int) (l : List Int) (b : Ord × Int) : Prop := ∃ f, goM (bestF P f) P n l (best0 P n) = some b
theorem GoB.nil (P : Pol) (n : Int) : GoB P n [] (best0 P n) := ⟨0, rfl⟩
theorem GoB.skip {P : Pol} {n a : Int} {l : List Int} {b : Ord × Int} (h : GoB P n l b) (ha : (a < 2 ∨ a = n) ∨ headsM P a = []) : GoB P n (l ++ [a]) b := by
 obtain ⟨f, h⟩ := h
 refine ⟨f, goM_snoc h ?_⟩
 unfold stepM
 rcases ha with ha | ha
 · rw [if_pos ha]
 · simp [ha]
theorem GoB.step {P : Pol} {n a : Int} {l : List Int} {b r : Ord × Int} (h : GoB P n l b) (h1 : ¬ (a < 2 ∨ a = n)) (hr : Best P (n / a) r) : GoB P n (l ++ [a]) ((headsM P a).foldl (offerH n a r) b) := by
 obtain ⟨f, h⟩ := h
 obtain ⟨g, hr⟩ := hr
 refine ⟨max f g, goM_snoc (goM_mono (fun n r => bestF_le (Nat.le_max_left f g)) h) ?_⟩
 unfold stepM
 rw [if_neg h1]
 by_cases h2 : headsM P a = []
 · rw [if_pos h2, h2]; rfl
 · rw [if_neg h2, bestF_le (Nat.le_max_right f g) hr]
theorem GoB.plain {P : Pol} {n : Int} {b : Ord × Int} (h : GoB P n (divsAt n (isq n)) b) (hh : hardM P (facs n) n = false) : Best P n b := by
 obtain ⟨f, h⟩ := h
 refine ⟨f + 1, ?_⟩
 rw [bestF, h]
 simp [hh]
theorem GoB.hard {P : Pol} {n : Int} {b x : Ord × Int} (h : GoB P n (divsAt n (isq n)) b) (hh : hardM P (facs n) n = true) (hx : Best P (up2 (2 * n - 1)) x) : Best P n (offerM b (.mk 4 n [x.1]) (blueC n (up2 (2 * n - 1)) x.2)) := by
 obtain ⟨f, h⟩ := h
 obtain ⟨g, hx⟩ := hx
 refine ⟨max f g + 1, ?_⟩
 rw [bestF, goM_mono (fun n r => bestF_le (Nat.le_max_left f g)) h]
 simp only [hh, if_true]
 rw [bestF_le (Nat.le_max_right f g) hx]
theorem facs_pow2 : ∀ j : Nat, j < 15 → (facs (2 ^ j)).all (fun q => decide (q ≤ 2)) = true := by decide +kernel
theorem hard_pow2 {P : Pol} {n : Int} (hp : 2 ≤ P.prime) (hn : n ≤ 16384) (h : ∃ j : Nat, n = 2 ^ j) : hardM P (facs n) n = false := by
 obtain ⟨j, rfl⟩ := h
 have hj : j < 15 := by
  rcases Nat.lt_or_ge j 15 with h | h
  · exact h
  ·
   have h1 : (2 : Int) ^ 15 ≤ 2 ^ j := by exact_mod_cast Nat.pow_le_pow_right (by omega : 0 < 2) h
   have : (2 : Int) ^ 15 = 32768 := by decide
   omega
 have h1 := facs_pow2 j hj
 unfold hardM
 have h2 : (facs (2 ^ j)).any (fun q => decide (q > P.prime)) = false := by
  rw [List.any_eq_false]
  intro q hq
  have := List.all_eq_true.1 h1 q hq
  simp only [decide_eq_true_eq] at this ⊢
  omega
 rw [h2]
 rfl
theorem nat_pow2_of_mul : ∀ (j x y : Nat), x * y = 2 ^ j → ∃ i, y = 2 ^ i
 | 0, x, y, h => ⟨0, by simpa using Nat.eq_one_of_mul_eq_one_left h⟩
 | j + 1, x, y, h => by
  rcases Nat.mod_two_eq_zero_or_one y with hy | hy
  ·
   obtain ⟨y', rfl⟩ : ∃ y', y = 2 * y' := ⟨y / 2, by omega⟩
   have : x * y' = 2 ^ j := by
    rw [Nat.pow_succ] at h
    have : x * (2 * y') = 2 * (x * y') := by rw [← Nat.mul_assoc, Nat.mul_comm x 2, Nat.mul_assoc]
    omega
   obtain ⟨i, rfl⟩ := nat_pow2_of_mul j x y' this
   exact ⟨i + 1, by rw [Nat.pow_succ]; omega⟩
  ·
   rcases Nat.mod_two_eq_zero_or_one x with hx | hx
   ·
    obtain ⟨x', rfl⟩ : ∃ x', x = 2 * x' := ⟨x / 2, by omega⟩
    have : x' * y = 2 ^ j := by
     rw [Nat.pow_succ] at h
     have : 2 * x' * y = 2 * (x' * y) := by rw [Nat.mul_assoc]
     omega
    exact nat_pow2_of_mul j x' y this
   ·
    exfalso
    have h1 : (x * y) % 2 = 1 := by rw [Nat.mul_mod, hx, hy]
    rw [h, Nat.pow_succ] at h1
    omega
theorem pow2_quo {n a : Int} (hn : 1 ≤ n) (ha : 1 ≤ a) (hd : n % a = 0) (h : ∃ j : Nat, n = 2 ^ j) : ∃ j : Nat, n / a = 2 ^ j := by
 obtain ⟨j, hj⟩ := h
 have e : n / a * a = n := Int.ediv_mul_cancel (Int.dvd_of_emod_eq_zero hd)
 have h0 : 0 ≤ n / a := Int.ediv_nonneg (by omega) (by omega)
 obtain ⟨y, hy⟩ : ∃ y : Nat, n / a = y := ⟨(n / a).toNat, by omega⟩
 obtain ⟨x, hx⟩ : ∃ x : Nat, a = x := ⟨a.toNat, by omega⟩
 have h2 : x * y = 2 ^ j := by
  rw [hy] at e
  rw [hj] at e
  rw [hx] at e
  have : ((x * y : Nat) : Int) = ((2 ^ j : Nat) : Int) := by
   push_cast
   rw [Int.mul_comm]
   exact e
  exact_mod_cast this
 obtain ⟨i, hi⟩ := nat_pow2_of_mul j x y h2
 exact ⟨i, by rw [hy, hi]; push_cast; rfl⟩
def usual : Pol := ⟨16, [2, 3, 4, 5], 13⟩
end Go.Tm
namespace Go.Tm
open Go.RowKit
section
variable {κ : Type} [BEq κ] [LawfulBEq κ]
structure MpG (mk : κ → Value) (w : World) (b : Nat) (m : List (κ × Value)) : Prop where
  ex : ∃ es clock, w.heap[b]? = some (.map es clock) ∧ es.toList.map (fun e => (e.key, e.val)) = m.map (fun x => (mk x.1, x.2))
omit [BEq κ] [LawfulBEq κ] in
theorem MpG.to {mk : κ → Value} {w w' : World} {b : Nat} {m : List (κ × Value)} (h : MpG mk w b m) {D : Nat → Prop} (c : Ch D w w') (hd : ¬ D b := by first | exact id | omega) : MpG mk w' b m := by
 obtain ⟨es, cl, h1, h2⟩ := h
 exact ⟨es, cl, c.old _ _ hd h1, h2⟩
omit [BEq κ] [LawfulBEq κ] in
theorem MpG.keep {mk : κ → Value} {w w' : World} {b : Nat} {m : List (κ × Value)} (h : MpG mk w b m) (c : Ch No w w') : MpG mk w' b m := h.to c id
omit [BEq κ] [LawfulBEq κ] in
theorem MpG.lt {mk : κ → Value} {w : World} {b : Nat} {m : List (κ × Value)} (h : MpG mk w b m) : b < w.heap.size := by
 obtain ⟨es, cl, h1, _⟩ := h
 exact blk_lt h1
def mfind (m : List (κ × Value)) (k : κ) : Option Value := (m.find? fun x => k == x.1).map (·.2)
def mset1 : List (κ × Value) → κ → Value → List (κ × Value)
 | [], k, v => [(k, v)]
 | x :: t, k, v => if k == x.1 then (k, v) :: t else x :: mset1 t k v
theorem mem_mset1 {k : κ} {v : Value} : ∀ {m : List (κ × Value)} {x : κ × Value}, x ∈ mset1 m k v → x = (k, v) ∨ x ∈ m
 | [], x, h => by simpa [mset1] using h
 | y :: t, x, h => by
  simp only [mset1] at h
  split at h
  ·
   simp only [List.mem_cons] at h
   rcases h with h | h
   · exact .inl h
   · exact .inr (List.mem_cons_of_mem _ h)
  ·
   simp only [List.mem_cons] at h
   rcases h with h | h
   · exact .inr (h ▸ List.mem_cons_self)
   · exact (mem_mset1 h).imp id (List.mem_cons_of_mem _)
theorem findNow_eq {mk : κ → Value} {kind : TypeDesc} (hs : ∀ a b, Instr.sameNow kind (mk a) (mk b) = some (a == b)) (k : κ) : ∀ (es : List MapEntry) (m : List (κ × Value)) (i : Nat), es.map (fun e => (e.key, e.val)) = m.map (fun x => (mk x.1, x.2)) →
  (mfind m k = none ∧ Instr.findNow kind (mk k) es i = some none) ∨ ∃ j v e, mfind m k = some v ∧ es[j]? = some e ∧ e.key = mk k ∧ Instr.findNow kind (mk k) es i = some (some (i + j, v)) ∧
   (∀ v', ((es.modify j fun e => { e with key := mk k, val := v' }).map fun e => (e.key, e.val)) = (mset1 m k v').map (fun x => (mk x.1, x.2)))
 | [], m, i, h => by
  cases m with
  | nil => exact .inl ⟨rfl, rfl⟩
  | cons x t => simp at h
 | e :: es, m, i, h => by
  cases m with
  | nil => simp at h
  | cons x t =>
   simp only [List.map_cons, List.cons.injEq, Prod.mk.injEq] at h
   obtain ⟨⟨hk, hv⟩, ht⟩ := h
   simp only [Instr.findNow, hk, hs]
   by_cases hx : (k == x.1) = true
   ·
    right
    have hkx : k = x.1 := by simpa using hx
    refine ⟨0, e.val, e, ?_, O, by rw [hk, hkx], ?_, ?_⟩
    · simp [mfind, hx, hv]
    · simp [hx]
    ·
     intro v'
     simp [mset1, hx, ht]
   ·
    have hx' : (k == x.1) = false := by simpa using hx
    rcases findNow_eq hs k es t (i + 1) ht with ⟨h1, h2⟩ | ⟨j, v, e', h1, h2, h3, h4, h5⟩
    ·
     left
     refine ⟨?_, ?_⟩
     · simpa [mfind, hx'] using h1
     · simp [hx', h2]
    ·
     right
     refine ⟨j + 1, v, e', ?_, by simpa using h2, h3, ?_, ?_⟩
     · simpa [mfind, hx'] using h1
     ·
      simp only [hx', h4]
      congr 3
      omega
     ·
      intro v'
      simp only [mset1, hx', List.modify_succ_cons, List.map_cons, Bool.false_eq_true, if_false]
      rw [h5 v', hk, hv]
structure KeyK (P : Program) (kt : TypeId) (mk : κ → Value) : Prop where
  ex : ∃ kind, P.underlying kt = some kind ∧ (∀ a b, Instr.sameNow kind (mk a) (mk b) = some (a == b)) ∧ (∀ b n a w, (Instr.checkKey b (n + 1) kt (mk a)).run P w = .ok () w) ∧ ∀ a, Instr.sameBits 10000 (mk a) (mk a) = true
end
theorem getMap {P : Program} {w : World} {r : Nat} {es : Array MapEntry} {clock : Nat} (hb : w.heap[r]? = some (.map es clock)) : (getObj r).run P w = .ok (.map es clock) w := by
 simp [getObj, Sem.run, hb]
theorem setMap {P : Program} {w : World} {r : Nat} {es : Array MapEntry} {clock : Nat} (o : Obj) (hb : w.heap[r]? = some (.map es clock)) : (setObj r o).run P w = .ok () { w with heap := w.heap.setIfInBounds r o } := by
 simp [setObj, Sem.run, hb]
theorem KeyK.int {P : Program} {kt : TypeId} {q : IntKind} (h : P.underlying kt = some (.int q)) : KeyK P kt (fun a : Int => Value.int q a) :=
 ⟨_, h, fun a b => by simp [Instr.sameNow], fun b n a w => by simp [Instr.checkKey, run_underlying h], fun a => by simp [Instr.sameBits]⟩
section
variable {κ : Type} [BEq κ] [LawfulBEq κ] {P : Program} {n : Fr} {k : K} {w : World} {d : Option Tmp} {ty : TypeId} {pos : String} {aft : Array Edge} {g : Option (Nat × Bool)} {mk : κ → Value} {t kt et : TypeId} {x y z : Operand} {b : Nat} {m : List (κ × Value)} {key : κ}
theorem run_findKey (kind : TypeDesc) (h1 : P.underlying kt = some kind) {es : List MapEntry} {r : Option (Nat × Value)} {kv : Value} (h : Instr.findNow kind kv es 0 = some r) : (Instr.findKey kt kv es).run P w = .ok r w := by
 simp [Instr.findKey, run_underlying h1, h]
theorem Rn.lookup_some {v : Value} (ht : P.underlying t = some (.map kt et)) (hk : KeyK P kt mk) (hx : ev k x = some (.map (some b))) (hy : ev k y = some (mk key)) (h : MpG mk w b m) (hv : mfind m key = some v) :
  Rn P n k w { dst := d, op := .lookup t x y true, type := ty, pos := pos, after := aft, guard := g } (.tuple #[v, .bool true]) := by
 obtain ⟨kind, h1, h2, h3, h4⟩ := hk
 obtain ⟨es, cl, h5, h6⟩ := h
 intro a ha
 rcases findNow_eq h2 key es.toList m 0 h6 with ⟨e, _⟩ | ⟨j, v', e', f1, f2, f3, f4, f5⟩
 · rw [hv] at e; cases e
 ·
  rw [hv] at f1
  injection f1 with f1
  subst f1
  simp [execOp, ha.eval hx, ha.eval hy, Instr.lookup, run_underlying ht, getMap h5, h3, run_findKey kind h1 f4]
theorem Rn.lookup_none {zv : Value} (ht : P.underlying t = some (.map kt et)) (hk : KeyK P kt mk) (hz : ∀ w, (zeroValue et).run P w = .ok zv w) (hx : ev k x = some (.map (some b))) (hy : ev k y = some (mk key)) (h : MpG mk w b m) (hv : mfind m key = none) :
  Rn P n k w { dst := d, op := .lookup t x y true, type := ty, pos := pos, after := aft, guard := g } (.tuple #[zv, .bool false]) := by
 obtain ⟨kind, h1, h2, h3, h4⟩ := hk
 obtain ⟨es, cl, h5, h6⟩ := h
 intro a ha
 rcases findNow_eq h2 key es.toList m 0 h6 with ⟨_, f4⟩ | ⟨j, v', e', f1, f2, f3, f4, f5⟩
 · simp [execOp, ha.eval hx, ha.eval hy, Instr.lookup, run_underlying ht, getMap h5, h3, run_findKey kind h1 f4, hz]
 · rw [hv] at f1; cases f1
theorem Wk.mapPut {v : Value} (ht : P.underlying t = some (.map kt et)) (hk : KeyK P kt mk) (hx : ev k x = some (.map (some b))) (hy : ev k y = some (mk key)) (hz : ev k z = some v) (h : MpG mk w b m) :
  Wk P n k w { dst := none, op := .mapUpdate t x y z, type := ty, pos := pos, after := aft, guard := g } (fun _ w' => Ch (Is b) w w' ∧ w'.heap.size = w.heap.size ∧ MpG mk w' b (mset1 m key v)) := by
 obtain ⟨kind, h1, h2, h3, h4⟩ := hk
 obtain ⟨es, cl, h5, h6⟩ := h
 refine Wk.of_unit fun a ha => ?_
 have hlt := blk_lt h5
 have hch : ∀ o : Obj, Ch (Is b) w { w with heap := w.heap.setIfInBounds b o } := fun o => ⟨rfl, rfl, rfl, by simp, fun q x hq hx => by
  simp only [Array.getElem?_setIfInBounds]
  rw [if_neg (fun e => hq e.symm)]
  exact hx⟩
 rcases findNow_eq h2 key es.toList m 0 h6 with ⟨f1, f4⟩ | ⟨j, v', e', f1, f2, f3, f4, f5⟩
 ·
  refine ⟨_, ?_, hch (.map (es.push { key := mk key, val := v, born := cl }) (cl + 1)), by simp, ⟨es.push { key := mk key, val := v, born := cl }, cl + 1, by simp [hlt], ?_⟩⟩
  · simp [execOp, ha.eval hx, ha.eval hy, ha.eval hz, Instr.mapUpdate, run_underlying ht, getMap h5, h3, run_findKey kind h1 f4, setMap _ h5]
  ·
   have hno : ∀ m : List (κ × Value), mfind m key = none → mset1 m key v = m ++ [(key, v)] := by
    intro m
    induction m with
    | nil => intro _; rfl
    | cons x t ih =>
     intro hf
     simp only [mfind, List.find?_cons] at hf
     cases hx : key == x.1 with
     | true => rw [hx] at hf; simp at hf
     | false =>
      rw [hx] at hf
      simp only [mset1, hx, Bool.false_eq_true, if_false, List.cons_append]
      rw [ih hf]
   rw [hno m f1]
   simp [h6]
 ·
  refine ⟨_, ?_, hch (.map (es.modify j fun e => { e with key := mk key, val := v }) cl), by simp, ⟨es.modify j fun e => { e with key := mk key, val := v }, cl, by simp [hlt], ?_⟩⟩
  ·
   have hkey : ((es[0 + j]?).map (·.key)).getD (mk key) = mk key := by
    rw [Nat.zero_add]
    have : es[j]? = some e' := by simpa using f2
    rw [this]
    simpa using f3
   simp only [Nat.zero_add] at f4 hkey
   simp [execOp, ha.eval hx, ha.eval hy, ha.eval hz, Instr.mapUpdate, run_underlying ht, getMap h5, h3, run_findKey kind h1 f4, Instr.keyThatStays, hkey, h4, setMap _ h5]
  ·
   rw [Array.toList_modify]
   exact f5 v
theorem Wk.makeMap {x : TypeId} : Wk P n k w { dst := d, op := .makeMap x none, type := ty, pos := pos, after := aft, guard := g } (fun v w' => ∃ p, v = .map (some p) ∧ New w w' p (.map #[] 0)) :=
 Rv fun a _ => ⟨_, _, by simp [execOp, run_makeMap], _, rfl, rfl, rfl⟩
end
theorem MpG.new {κ : Type} {mk : κ → Value} {w w' : World} {p : Nat} (h : New w w' p (.map #[] 0)) : MpG mk w' p [] := ⟨#[], 0, h.blk, rfl⟩
end Go.Tm
namespace Go.Tm
set_option maxRecDepth 100000
open Go.RowKit Go.Proofs Go.Proofs.Tryz
structure Chr (w : World) (q mb : Nat) (P : Pol) : Prop where
  ex : ∃ FA fc S, Bk w q #[.int .i64 P.direct, .slice FA P.flies.length fc, .int .i64 P.prime, .map (some mb)] 194 ∧ SlR S w FA P.flies.length 1 (P.flies.map (.int .i64 ·)) ∧ (∀ x, S x → x < mb) ∧ P.flies.length ≤ 100 ∧ mb < q
theorem Chr.to {w w' : World} {q mb : Nat} {P : Pol} (h : Chr w q mb P) {D : Nat → Prop} (c : Ch D w w') (hd : ∀ x, x < w.heap.size → x < mb ∨ x = q → isC w x → ¬ D x := by first | exact fun _ _ _ _ => id | (intro q h1 h2 hx h3; omega)) : Chr w' q mb P := by
 obtain ⟨FA, fc, S, h1, h2, h3, h4, h5⟩ := h
 exact ⟨FA, fc, S, h1.to c (hd q h1.lt (.inr O) ⟨_, _, _, h1.blk⟩), h2.to c (fun x hx hs hc => hd x hx (.inl (h3 x hs)) hc), h3, h4, h5⟩
theorem Chr.keep {w w' : World} {q mb : Nat} {P : Pol} (h : Chr w q mb P) (c : Ch No w w') : Chr w' q mb P := h.to c fun _ _ _ _ => id
theorem Chr.toG {B : Nat} {w w' : World} (g : Gn B w w') {q mb : Nat} {P : Pol} (h : Chr w q mb P) : Chr w' q mb P := h.to g fun _ _ _ hx => notC hx
theorem Chr.lt {w : World} {q mb : Nat} {P : Pol} (h : Chr w q mb P) : q < w.heap.size ∧ mb < q := by
 obtain ⟨FA, fc, S, h1, h2, h3, h4, h5⟩ := h
 exact ⟨h1.lt, h5⟩
theorem inf3w6 : Inf prog 3 (.int .i64 0) 1 8 := ⟨Tryz.t3, type3, rfl, rfl, rfl⟩
theorem inf53w6 : Inf prog 53 (.agg #[.int .i64 0, .int .i64 0, .slice none 0 0]) 3 40 := ⟨Tryz.t53, type53, rfl, rfl, rfl⟩
theorem build79w6 {ps : List (Nat × Value)} {cs : Array Value} (h : Instr.fill (fun i => ([(0, 1), (1, 1), (2, 1)] : List (Nat × Nat))[i]?) #[.int .i64 0, .slice none 0 0, .int .i64 0] ps = some cs) (w : World) : (Instr.build 79 ps.toArray).run prog w = .ok (.agg cs) w := by
 simp [Instr.build, runUnderlying79, ζ79, ς3, ς77, Value.cells, h]
theorem bld79_0_1_2w6 {v0 v1 v2 : Value} (h : [v0, v1, v2].all Value.oneCell' = true) : BLD prog 79 [(0, v0), (1, v1), (2, v2)] #[v0, v1, v2] := build79w6 (fill1 _ _ _ h rfl)
theorem bld194_0_1w6 {v0_0 v0_1 v0_2 v1 : Value} (h : [v1].all Value.oneCell' = true) (w : World) : (Instr.build 194 ([(0, .agg #[v0_0, v0_1, v0_2]), (1, v1)] : List (Nat × Value)).toArray).run prog w = .ok (.agg #[v0_0, v0_1, v0_2, v1]) w := by
 simp only [List.all_cons, Bool.and_eq_true, List.all_nil, and_true] at h
 have hv1 := oneCell_cells (v := v1) (by simp_all)
 have h1 := fill_set (fun i => ([(0, 3), (3, 1)] : List (Nat × Nat))[i]?) [(0, .agg #[v0_0, v0_1, v0_2]), (1, v1)] [.int .i64 0, .slice none 0 0, .int .i64 0, .map none] (by simp [okF, agg_cells, hv1, Nat.beq, Nat.ble])
 simp [setF, agg_cells, hv1] at h1
 simp [Instr.build, runUnderlying194, zeroValue194, ς79, ς192, agg_cells, h1]
theorem slices_Index (S : Nat → Prop) (xs : List Int) (A : Option Addr) (c : Nat) (x : Int) (w : World) (sl : SlR S w A xs.length 1 (xs.map (.int .i64 ·))) (hl : xs.length ≤ 1000000) :
  Calls prog 275 #[.slice A xs.length c, Kg x] w (Ret (fun v w' => (∃ i : Int, v = Kg i ∧ (0 ≤ i ↔ xs.contains x = true)) ∧ w = w')) := by
 refine Ku func275 O ntmps275 O (Kb (Ww O O (Wz (Qe ?_))))
 refine Qb (Wu O O (Om (Cs υ77 O) O (Wu O O (Ka (Qt (Kf (σ := Nat) (fun i => [(0, .slice A xs.length c), (1, Kg x), (7, Kg xs.length), (8, Kg i)]) (fun i w' => w = w' ∧ i ≤ xs.length ∧ (xs.take i).contains x = false) (fun i => xs.length - i) 0 ?_ ?_))))))
 · exact ⟨O, Nat.zero_le _, O⟩
 rintro i _ ⟨rfl, i1, hn⟩
 refine Kb (Om (Co O O) O (Wz (Qj O (fun hc1 => ?_) (fun hc1 => ?_))))
 ·
  refine Qn (Qa (Qe (Qt (Qe ?_))))
  have hxi : xs[i]? = some (xs.getD ((i : Int)).toNat 0) := by rw [Int.toNat_natCast, List.getD, List.getElem?_eq_getElem (by omega)]; rfl
  refine Qb (Wu O O (Ww O O (Wy (Wu O O ?_))))
  refine Wu O O (Wu O O (Om (Qs υ77 ς3 O O (sl.ne (by omega))) O (Om (Qg ι3 O (sl.get 0 (by omega) (by omega))) O (Om (Cg O O) O (Ka (Qj O (fun hc2 => ?_) (fun hc2 => ?_)))))))
  ·
   refine Kb (Wu O O (Ww O O (Ka (Qp (Cb ?_)))))
   refine Qw (Qw (Cb (Qw (Qx O O (Kx (⟨⟨_, O, ?_⟩, O⟩))))))
   have hm := List.mem_of_getElem? hxi
   rw [← hc2] at hm
   simp [hm]
  refine Qn (Ql (Qa (Qb ?_)))
  refine Om (Cd O O) O ?_
  refine Wu O O (Qf ?_)
  refine Ke (i + 1) ?_
  refine ⟨O, by omega, ?_⟩
  rw [List.take_add_one, hxi]
  exact contains_snoc hn hc2
 refine Cn (Qk (Qk (Qy (Qa (Kb (Ww O O ?_))))))
 refine Ka (Qp (Qx O O (Kx (⟨⟨_, O, ?_⟩, O⟩))))
 have : i = xs.length := by omega
 subst this; rw [List.take_length] at hn
 rw [hn]; decide
theorem slices_Contains (S : Nat → Prop) (xs : List Int) (A : Option Addr) (c : Nat) (x : Int) (w : World) (sl : SlR S w A xs.length 1 (xs.map (.int .i64 ·))) (hl : xs.length ≤ 1000000) :
  Calls prog 244 #[.slice A xs.length c, Kg x] w (Ret (fun v w' => v = .bool (xs.contains x) ∧ w = w')) := by
 refine Ku func244 O ntmps244 O (Kb (Ww O O (Wy ?_)))
 refine Wu O O (Wu O O (Oq (Qi call275 O (slices_Index _ _ _ _ _ _ sl (by omega))) O ?_))
 rintro _ _ ⟨⟨ix, rfl, hix⟩, rfl⟩
 refine Om (Ry O O) O (Ww O O (Ka (Qp (Qx O O (Kx (⟨congrArg _ ?_, O⟩))))))
 rw [Bool.eq_iff_iff]; simpa using hix
theorem chooser_flies (P : Pol) (q mb : Nat) (a : Int) (w : World) (hch : Chr w q mb P) :
  Calls prog 189 #[Kh q, Kg a] w (Ret (fun v w' => v = .bool (P.flies.contains a) ∧ w = w')) := by
 obtain ⟨FA, fc, S, bq, sl, hS, hfl, hqm⟩ := hch
 refine Ku func189 O ntmps189 O (Kb (Ww O O (Wy ?_)))
 refine Wu O O (Om (Qq O) O (Om (Qh υ194 O ς79 O O O) O (Om (Qh υ79 O ς77 O O O) O (Om (Qg ι77 O (bq.cell O)) O (Wu O O (Oq (Qi call244 O (slices_Contains _ _ _ _ _ _ sl (by omega))) O ?_))))))
 rintro _ _ ⟨rfl, rfl⟩
 refine Ww O O (Ka (Qp (Qx O O (Kx ?_))))
 exact ⟨O, O⟩
theorem planner_Usual (w : World) :
  Calls prog 45 #[] w (Ret (fun v w' => ∃ FA fc, v = .agg #[Kg 16, .slice FA 4 fc, Kg 13] ∧ SlR (In w.heap.size w'.heap.size) w' FA 4 1 [Kg 2, Kg 3, Kg 4, Kg 5] ∧ Ch No w w')) := by
 refine Ku func45 O ntmps45 O (Kb (Km (Ck ζ79) O ?_))
 intro p1 w1 b0 c1 e1 z1
 refine Wy (Kq 1 4 (Kl υ77 inf3w6 O O) O ?_)
 intro p2 w2 l1 l1o c2 e2 z2
 refine Om (Ct O (bld79_0_1_2w6 O)) O ?_
 have b0_2 := b0.keep c2
 refine Ks (Cl ς79 O O O O b0_2) O ?_
 intro w3 c3 z3 b0_3
 refine Ka (Qp (Rl O O ι79 ς79 O (b0_3.all' O) (Kx ?_)))
 have cc_0_3 : Ch No w w3 := (Ch.then (E := No) (c1.and c2) c3)
 have CH_3 := cc_0_3
 have zz := CH_3.size
 have l1_3 := l1.to c3
 exact ⟨_, _, O, (l1_3).weak (fun q h => ⟨by omega, by omega⟩), CH_3⟩
theorem planner_Check (P : Pol) (FA : Option Addr) (fc lo hi : Nat) (w : World) (sl : SlR (In lo hi) w FA P.flies.length 1 (P.flies.map (.int .i64 ·))) (hh : hi ≤ w.heap.size) (hp : PolOk P) (hl : P.flies.length ≤ 100) :
  Calls prog 125 #[.agg #[Kg P.direct, .slice FA P.flies.length fc, Kg P.prime]] w (Ret (fun v w' => v = .nilIface ∧ Ch No w w')) := by
 obtain ⟨p1, p2, p3, p4, p5⟩ := hp
 refine Ku func125 O ntmps125 O (Kb (Km (Cp O) O ?_))
 intro p1 w1 b1 c1 e1 z1
 refine Ww O O (Wz (Kb (Om (Qh υ79 O ς3 O O O) O (Om (Qg ι3 O (b1.cell O)) O ?_))))
 refine Om (Co O O) O (Wu O O ?_)
 refine Cz (b := _) 4 9 13 O (fun hc1 Jhc1 => by
   refine Oy O (Oy O (Oy O (Om (Qr O O) O ?_)))
   exact (Qo O (Qo O (Qo O Jhc1)))) (fun hc1 Jhc1 => by
   try simp only [bX] at hc1
   refine Om (Qh υ79 O ς3 O O O) O (Om (Qg ι3 O (b1.cell O)) O (Om (Rb O O) O (Om (Qm O O) O ?_)))
   exact (Qo O (Qo O (Qo O Jhc1)))) ?_
 refine Wu O O ?_
 refine Cz (b := _) 4 14 18 O (fun hc2 Jhc2 => by
   refine Oy O (Oy O (Oy O (Om (Qr O O) O ?_)))
   exact (Qo O (Qo O (Qo O Jhc2)))) (fun hc2 Jhc2 => by
   try simp only [bX] at hc2
   refine Om (Qh υ79 O ς3 O O O) O (Om (Qg ι3 O (b1.cell O)) O (Om (Co O O) O (Om (Qm O O) O ?_)))
   exact (Qo O (Qo O (Qo O Jhc2)))) ?_
 refine Wu O O ?_
 refine Cz (b := _) 6 19 25 O (fun hc3 Jhc3 => by
   refine Oy O (Oy O (Oy O (Oy O (Oy O (Om (Qr O O) O ?_)))))
   exact (Qo O (Qo O (Qo O (Qo O (Qo O Jhc3)))))) (fun hc3 Jhc3 => by
   try simp only [bX] at hc3
   refine Om (Qh υ79 O ς3 O O O) O (Om (Qg ι3 O (b1.cell O)) O (Om (Qh υ79 O ς3 O O O) O (Om (Qg ι3 O (b1.cell O)) O (Om (Rb O O) O (Om (Qm O O) O ?_)))))
   exact (Qo O (Qo O (Qo O (Qo O (Qo O Jhc3)))))) ?_
 refine Ka (Cq O (fun hc4 => ?_) (fun hc4 => ?_))
 ·
  try simp only [bX] at hc4
  omega
 try simp only [bX] at hc4
 refine Qn (Qa (Kb (Ww O O (Wz ?_))))
 refine Kb (Om (Qh υ79 O ς77 O O O) O (Om (Qg ι77 O (b1.cell O)) O (Om (Cs υ77 O) O (Wu O O (Ka ?_)))))
 refine Qt (Kf (σ := Nat) (fun i => [(1, Kh p1), (3, Kg (if i = 0 then 1 else P.flies.getD (i - 1) 0)), (28, .slice FA P.flies.length fc), (29, Kg P.flies.length), (30, Kg i)]) (fun i w' => w' = w1 ∧ i ≤ P.flies.length) (fun i => P.flies.length - i) 0 ?_ ?_)
 · exact ⟨O, Nat.zero_le _⟩
 rintro i _ ⟨rfl, i1⟩
 refine Kb (Om (Co O O) O (Wz (Qj O (fun hc5 => ?_) (fun hc5 => ?_))))
 ·
  refine Qn (Qa (Qe (Qt (Qe ?_))))
  have hxi : P.flies[i]? = some (P.flies.getD ((i : Int)).toNat 0) := by rw [Int.toNat_natCast, List.getD, List.getElem?_eq_getElem (by omega)]; rfl
  have hb := p5 i _ hxi
  refine Qb ?_
  have sl_1 := sl.keep c1
  refine Om (Qs υ77 ς3 O O (sl_1.ne (by omega))) O (Om (Qg ι3 O (sl_1.get 0 (by omega) (by omega))) O (Ww O O (Wz (Kb ?_))))
  refine Wu O O (Wu O O (Om (Ro O O) O (Wu O O ?_)))
  refine Cz (b := _) 3 37 40 O (fun hc6 Jhc6 => by
    refine Oy O (Oy O (Om (Qr O O) O ?_))
    exact (Qo O (Qo O Jhc6))) (fun hc6 Jhc6 => by
    try simp only [bX] at hc6
    refine Wu O O (Om (Rb O O) O (Om (Qm O O) O ?_))
    exact (Qo O (Qo O Jhc6))) ?_
  refine Ka (Cq O (fun hc7 => ?_) (fun hc7 => ?_))
  ·
   try simp only [bX] at hc7
   omega
  try simp only [bX] at hc7
  refine Qn (Qa (Qb (Wu O O (Ww O O (Qf (Ql (Qa ?_)))))))
  refine Qb ?_
  refine Om (Cd O O) O ?_
  refine Wu O O (Qf ?_)
  refine Ke (i + 1) ?_
  exact ⟨O, by omega⟩
 refine Cn (Qk (Qk (Qy (Qa (Kb (Ww O O ?_))))))
 refine Ka (Qp (Qx O O (Kx ?_)))
 have CH_1 := c1
 exact ⟨O, CH_1⟩
theorem planner_newChooser (P : Pol) (FA : Option Addr) (fc lo hi : Nat) (w : World) (sl : SlR (In lo hi) w FA P.flies.length 1 (P.flies.map (.int .i64 ·))) (hh : hi ≤ w.heap.size) (hl : P.flies.length ≤ 100) :
  Calls prog 126 #[.agg #[Kg P.direct, .slice FA P.flies.length fc, Kg P.prime]] w (Ret (fun v w' => ∃ q mb, v = Kh q ∧ Chr w' q mb P ∧ MpG (Value.int .i64 ·) w' mb ([] : List (Int × Value)) ∧ w.heap.size ≤ mb ∧ Ch No w w')) := by
 refine Ku func126 O ntmps126 O (Kb (Km (Cp O) O ?_))
 intro p1 w1 b1 c1 e1 z1
 refine Ww O O (Wy (Om (Qz ι79 ς79 O O (b1.all' O)) O (Kc (Wk.makeMap) O ?_)))
 intro p2 w2 N2 c2 e2 z2
 have m4 := MpG.new (mk := (Value.int .i64 ·)) N2
 refine Om (Ct O (bld194_0_1w6 O)) O (Km (Cp O) O ?_)
 intro p3 w3 b6 c3 e3 z3
 refine Ww O O (Ka (Qp (Qx O O (Kx ?_))))
 have sl_3 := sl.keep (c1.trans (c2.trans c3))
 have m4_3 := m4.keep c3
 have CH_3 := (c1.trans (c2.trans c3))
 exact ⟨_, _, O, ⟨_, _, In lo hi, b6, sl_3, fun x h => by omega, hl, by omega⟩, m4_3, by omega, CH_3⟩
theorem chooser_heads (P : Pol) (q mb : Nat) (a : Int) (w : World) (ch : Chr w q mb P) :
  Calls prog 154 #[Kh q, Kg a] w (Ret (fun v w' => ∃ A c, v = .slice A (headsM P a).length c ∧ RdK (In w.heap.size w'.heap.size) w' A (headsM P a) ∧ Ch No w w')) := by
 obtain ⟨FA, fc, S, bq, sl, hS, hfl, hqm⟩ := id ch
 refine Ku func154 O ntmps154 O (Kb (Ww O O (Wy ?_)))
 refine Ww O O (Wz (Kb (Wu O O (Wu O O ?_))))
 refine Om (Qq O) O (Om (Qh υ194 O ς79 O O O) O (Om (Qh υ79 O ς3 O O O) O (Om (Qg ι3 O (bq.cell O)) O (Om (Ro O O) O (Ka (Qj O (fun hc1 => ?_) (fun hc1 => ?_)))))))
 ·
  refine Qb (Wu O O (Wu O O (Oq (Qi call188 O (order_Direct _ _)) O ?_)))
  rintro _ w1 ⟨rfl, c1⟩
  have z1 := c1.size
  refine Kq 3 1 (Kl υ51 inf53w6 O O) O ?_
  intro p2 w2 l16 l16o c2 e2 z2
  refine Oq (Cm (S := _) υ51 inf53w6 O (by decide) O O (Ow.nil _ _ _) l16 (by rfl) (fun h => by simp at h) (by omega) (by simp only [maxLen]; omega)) O ?_
  rintro _ w3 ⟨r3, A3, k3, rfl, o3, c3, q3⟩
  have z3 := c3.size
  have y3 := o3.lt
  refine Ww O O (Wz (Kb (Wu O O (Wu O O ?_))))
  have ch_2 := ch.keep (c1.trans c2)
  have ch_3 := ch_2.to c3
  refine Oq (Qi call189 O (chooser_flies _ _ _ _ _ ch_3)) O ?_
  rintro _ _ ⟨rfl, rfl⟩
  refine Ka (Cq O (fun hc2 => ?_) (fun hc2 => ?_))
  ·
   try simp only [bX] at hc2
   refine Qb (Wu O O (Wu O O (Oq (Qi call190 O (order_Fly _ _)) O ?_)))
   rintro _ w4 ⟨rfl, c4⟩
   have z4 := c4.size
   refine Kq 3 1 (Kl υ51 inf53w6 O O) O ?_
   intro p5 w5 l24 l24o c5 e5 z5
   have row_5 := o3.keep (c4.trans c5)
   refine Oq (Cm (S := _) υ51 inf53w6 O (by decide) O O row_5 l24 (by rfl) (fun h => by simp at h) (by omega) (by simp only [maxLen]; omega)) O ?_
   rintro _ w6 ⟨r6, A6, k6, rfl, o6, c6, q6⟩
   have z6 := c6.size
   have y6 := o6.lt
   refine Ww O O (Wy (Wu O O (Ww O O (Qf ?_))))
   refine Qa (Qp (Qx O O (Kx ?_)))
   have CH_2 := (c1.trans c2)
   have CH_3 : Ch (No) w w3 := CH_2.then c3
   have CH_5 := CH_3.and (c4.trans c5)
   have CH_6 : Ch (No) w w6 := CH_5.then c6
   have zz := CH_6.size
   have eh : headsM P a = [.mk 1 a [], .mk 2 a []] := by unfold headsM; rw [if_pos hc1, if_pos hc2]; rfl
   have y9 := o6.lt
   exact ⟨_, _, by rw [eh]; rfl, by rw [eh]; exact ((((KidRow.nil _ _).snoc (o := .mk 1 a []) O (RdK.nil _ _)).snoc (o := .mk 2 a []) O (RdK.nil _ _))).rd (o6.sl.weak (fun q h => ⟨by omega, by omega⟩)) (by simp), CH_6⟩
  try simp only [bX] at hc2
  refine Qn (Qa (Kb (Wu O O (Ww O O (Ka ?_)))))
  refine Qp (Qx O O (Kx ?_))
  have CH_2 := (c1.trans c2)
  have CH_3 : Ch (No) w w3 := CH_2.then c3
  have zz := CH_3.size
  have eh : headsM P a = [.mk 1 a []] := by unfold headsM; rw [if_pos hc1, if_neg (by rw [hc2]; simp)]; rfl
  have y9 := o3.lt
  exact ⟨_, _, by rw [eh]; rfl, by rw [eh]; exact (((KidRow.nil _ _).snoc (o := .mk 1 a []) O (RdK.nil _ _))).rd (o3.sl.weak (fun q h => ⟨by omega, by omega⟩)) (by simp), CH_3⟩
 refine Qn (Qa (Qe (Kb (Wu O O (Wu O O (Oq (Qi call189 O (chooser_flies _ _ _ _ _ ch)) O ?_))))))
 rintro _ _ ⟨rfl, rfl⟩
 refine Ka (Cq O (fun hc3 => ?_) (fun hc3 => ?_))
 ·
  try simp only [bX] at hc3
  refine Qb (Wu O O (Wu O O (Oq (Qi call190 O (order_Fly _ _)) O ?_)))
  rintro _ w7 ⟨rfl, c7⟩
  have z7 := c7.size
  refine Kq 3 1 (Kl υ51 inf53w6 O O) O ?_
  intro p8 w8 l24 l24o c8 e8 z8
  refine Oq (Cm (S := _) υ51 inf53w6 O (by decide) O O (Ow.nil _ _ _) l24 (by rfl) (fun h => by simp at h) (by omega) (by simp only [maxLen]; omega)) O ?_
  rintro _ w9 ⟨r9, A9, k9, rfl, o9, c9, q9⟩
  have z9 := c9.size
  have y9 := o9.lt
  refine Ww O O (Wy (Wu O O (Ww O O (Qf ?_))))
  refine Qa (Qp (Qx O O (Kx ?_)))
  have CH_8 := (c7.trans c8)
  have CH_9 : Ch (No) w w9 := CH_8.then c9
  have zz := CH_9.size
  have eh : headsM P a = [.mk 2 a []] := by unfold headsM; rw [if_neg hc1, if_pos hc3]; rfl
  have y9 := o9.lt
  exact ⟨_, _, by rw [eh]; rfl, by rw [eh]; exact (((KidRow.nil _ _).snoc (o := .mk 2 a []) O (RdK.nil _ _))).rd (o9.sl.weak (fun q h => ⟨by omega, by omega⟩)) (by simp), CH_9⟩
 try simp only [bX] at hc3
 refine Qn (Qa (Kb (Wu O O (Ww O O (Ka ?_)))))
 refine Qp (Qx O O (Kx ?_))
 have zz := (Ch.refl (No) w).size
 have eh : headsM P a = [] := by unfold headsM; rw [if_neg hc1, if_neg (by rw [hc3]; simp)]; rfl
 exact ⟨_, _, by rw [eh]; rfl, by rw [eh]; exact RdK.nil _ _, (Ch.refl (No) w)⟩
theorem primes_Factors (n0 : Int) (w : World) (h1 : 1 ≤ n0) (h2 : n0 ≤ 16384) :
  Calls prog 196 #[Kg n0] w (Ret (fun v w' => ∃ A c, v = .slice A (facs n0).length c ∧ SlR (In w.heap.size w'.heap.size) w' A (facs n0).length 1 ((facs n0).map (.int .i64 ·)) ∧ (facs n0).length ≤ 2000 ∧ Ch No w w')) := by
 refine Ku func196 O ntmps196 O (Kb (Ww O O (Wy ?_)))
 refine Ww O O (Wz (Kb (Wu O O (Om (Co O O) O ?_))))
 refine Wu O O ?_
 refine Cz (b := _) 3 7 10 O (fun hc1 Jhc1 => by
   refine Oy O (Oy O (Om (Qr O O) O ?_))
   exact (Qo O (Qo O Jhc1))) (fun hc1 Jhc1 => by
   try simp only [bX] at hc1
   refine Wu O O (Om (Rb O O) O (Om (Qm O O) O ?_))
   exact (Qo O (Qo O Jhc1))) ?_
 refine Ka (Cq O (fun hc2 => ?_) (fun hc2 => ?_))
 ·
  try simp only [bX] at hc2
  refine Kb (Wu O O (Ww O O (Ka (Qp (Qw ?_)))))
  refine Qx O O (Kx ?_)
  have e1 : n0 = 1 := by omega
  subst e1
  exact ⟨none, 0, O, SlR.nil _ _ _, by decide, (Ch.refl (No) w)⟩
 try simp only [bX] at hc2
 refine Qn (Qa (Qe (Kb (Ww O O (Ka ?_)))))
 refine Qt (Kf (σ := Nat × Int × Int × List Int × Option Addr × Nat × Nat) (fun (f, n, p, out, A, L, c) => [(0, Kg n), (3, .slice A L c), (4, Kg p)]) (fun (f, n, p, out, A, L, c) w' => facs n0 = facO f n p out ∧ 1 ≤ n ∧ n ≤ 16384 ∧ 2 ≤ p ∧ p ≤ 129 ∧ 131 ≤ f + p ∧ out.length = L ∧ (L : Int) ≤ 15 * (p - 2) ∧ (∃ r, Ow w' r 3 1 A L c (out.map (.int .i64 ·)) ∧ (r = 0 ∨ w.heap.size < r)) ∧ Ch No w w') (fun (f, n, p, out, A, L, c) => f) (200, n0, 2, [], none, 0, 0) ?_ ?_)
 · exact ⟨O, h1, h2, by omega, by omega, by omega, O, by simp, ⟨0, Ow.nil _ _ _, .inl O⟩, (Ch.refl (No) w)⟩
 rintro ⟨f, n, p, out, A, L, c⟩ w1 ⟨he, n1, n2, p1, p2, hf, hL, hl, ⟨r, row_1, hr⟩, CH_1⟩
 have hq := sq_le (c := p); have zc := CH_1.size
 obtain ⟨f, rfl⟩ : ∃ g, f = g + 1 := ⟨f - 1, by omega⟩
 refine Qe (Kb (Wu O O (Wu O O ?_)))
 refine Om (Cy O O) O ?_
 refine Wu O O (Om (Ro O O) O (Ka (Qj O (fun hc3 => ?_) (fun hc3 => ?_))))
 ·
  refine Qn (Qa (Qe (Qt (Qt (Kf (σ := Nat × Int × List Int × Option Addr × Nat × Nat) (fun (g, m, out2, A2, L2, c2) => [(0, Kg m), (3, .slice A2 L2 c2), (4, Kg p)]) (fun (g, m, out2, A2, L2, c2) w' => divO 15 n p out = divO g m p out2 ∧ 1 ≤ m ∧ m ≤ n ∧ m < 2 ^ g ∧ out2.length = L2 ∧ (L2 : Int) ≤ 15 * (p - 2) + (15 - g) ∧ g ≤ 15 ∧ (∃ r, Ow w' r 3 1 A2 L2 c2 (out2.map (.int .i64 ·)) ∧ (r = 0 ∨ w.heap.size < r)) ∧ Ch No w w') (fun (g, m, out2, A2, L2, c2) => g) (15, n, out, A, L, c) ?_ ?_)))))
  · exact ⟨O, n1, by omega, by omega, hL, by omega, by omega, ⟨_, row_1, hr⟩, CH_1⟩
  rintro ⟨g, m, out2, A2, L2, c2⟩ w2 ⟨hg, m1, m2, m3, hL2, hl2, hg15, ⟨r2, row_2, hr2⟩, CH_2⟩
  have y2 := row_2.lt; have zz := CH_2.size
  refine Qe (Kb (Wu O O (Wu O O (Om (Rq O O) O (Om (Cg O O) O (Qf ?_))))))
  refine Qa (Qj O (fun hc4 => ?_) (fun hc4 => ?_))
  ·
   refine Qn (Qa (Qt (Qe ?_)))
   obtain ⟨g, rfl⟩ := g_pos m1 m3
   have dh := div_half (m := 2 ^ g) p1 m1 hc4 (by rw [Int.pow_succ] at m3; omega)
   refine Qb (Wu O O (Wu O O (Kq 1 1 (Kl υ77 inf3w6 O O) O ?_)))
   intro p3 w3 l25 l25o c3 e3 z3
   have row_3 := row_2.keep c3
   refine Oq (Cm (S := _) υ77 inf3w6 O (by decide) O O row_3 l25 (by rfl) (fun h => by simp at h) (by omega) (by simp only [maxLen]; omega)) O ?_
   rintro _ w4 ⟨r4, A4, k4, rfl, o4, c4, q4⟩
   have z4 := c4.size
   have y4 := o4.lt
   refine Ww O O (Ka (Qb (Wu O O (Wu O O (Om (Wc O O (by omega) (by omega) (by omega)) O (Ww O O ?_))))))
   refine Qf (Ql ?_)
   refine Ke (g, m / p, out2 ++ [p], A4, L2 + 1, k4) ?_
   have CH_3 := CH_2.and c3
   have CH_4 : Ch (No) w w4 := CH_3.then c4
   refine ⟨?_, by omega, by omega, by omega, by simp [hL2], by omega, by omega, ⟨_, by simpa [flat, Value.cells] using o4, by omega⟩, CH_4⟩
   rw [hg, divO, if_pos hc4]
  refine Cn (Qk (Qk (Qy (Ql (Qa (Qb (Wu O O ?_)))))))
  refine Om (Cd O O) O ?_
  refine Ww O O (Qf ?_)
  refine Ke (f, m, p + 1, out2, A2, L2, c2) ?_
  have hp9 : p ≤ 128 := by rcases Int.lt_or_le 128 p with h | h; (have := sq_mono (p := 129) (q := p); omega); exact h
  refine ⟨?_, by omega, by omega, by omega, by omega, by omega, hL2, by omega, ⟨_, row_2, by omega⟩, CH_2⟩
  rw [he, facO, if_pos hc3, hg, divO_stop hc4]
 refine Cn (Qk (Qk (Qy (Qa (Qe (Kb ?_))))))
 refine Wu O O (Om (Rb O O) O (Ka (Qj O (fun hc5 => ?_) (fun hc5 => ?_))))
 ·
  refine Qb (Wu O O (Wu O O (Kq 1 1 (Kl υ77 inf3w6 O O) O ?_)))
  intro p5 w5 l34 l34o c5 e5 z5
  have row_5 := row_1.keep c5
  refine Oq (Cm (S := _) υ77 inf3w6 O (by decide) O O row_5 l34 (by rfl) (fun h => by simp at h) (by omega) (by simp only [maxLen]; omega)) O ?_
  rintro _ w6 ⟨r6, A6, k6, rfl, o6, c6, q6⟩
  have z6 := c6.size
  have y6 := o6.lt
  refine Ww O O (Wy (Wu O O (Ww O O (Qf ?_))))
  refine Qa (Qp (Qx O O (Kx ?_)))
  have CH_5 := CH_1.and c5
  have CH_6 : Ch (No) w w6 := CH_5.then c6
  have zz := CH_6.size; have y9 := o6.lt
  have ef : facs n0 = out ++ [n] := by rw [he, facO, if_neg hc3, if_pos hc5]
  rw [ef]
  refine ⟨A6, k6, by simp [hL], ?_, by simp; omega, CH_6⟩
  have h9 := o6.sl.weak (S' := In w.heap.size w6.heap.size) (fun q h => ⟨by omega, by omega⟩)
  simpa [hL, flat, Value.cells] using h9
 refine Qn (Qa (Kb (Wu O O (Ww O O (Ka ?_)))))
 refine Qp (Qx O O (Kx ?_))
 have zz := CH_1.size; have y9 := row_1.lt
 have ef : facs n0 = out := by rw [he, facO, if_neg hc3, if_neg hc5]
 rw [ef]
 refine ⟨_, _, by rw [hL], ?_, by omega, CH_1⟩
 have h9 := row_1.sl.weak (S' := In w.heap.size w1.heap.size) (fun q h => ⟨by omega, by omega⟩)
 rw [hL]; exact h9
end Go.Tm
namespace Go.Tm
set_option maxRecDepth 100000
open Go.RowKit Go.Proofs Go.Proofs.Tryz
abbrev pricedC (r : Ord × Int) (A : Option Addr) (c : Nat) : Array Value := #[.int .i64 r.1.kind, .int .i64 r.1.n, .slice A r.1.kids.length c, .int .i64 r.2]
theorem bld149_0_1w7 {v0_0 v0_1 v0_2 v1 : Value} (h : [v1].all Value.oneCell' = true) (w : World) : (Instr.build 149 ([(0, .agg #[v0_0, v0_1, v0_2]), (1, v1)] : List (Nat × Value)).toArray).run prog w = .ok (.agg #[v0_0, v0_1, v0_2, v1]) w := by
 simp only [List.all_cons, Bool.and_eq_true, List.all_nil, and_true] at h
 have hv1 := oneCell_cells (v := v1) (by simp_all)
 have h1 := fill_set (fun i => ([(0, 3), (3, 1)] : List (Nat × Nat))[i]?) [(0, .agg #[v0_0, v0_1, v0_2]), (1, v1)] [.int .i64 0, .int .i64 0, .slice none 0 0, .int .i64 0] (by simp [okF, agg_cells, hv1, Nat.beq, Nat.ble])
 simp [setF, agg_cells, hv1] at h1
 simp [Instr.build, runUnderlying149, ζ149, ς3, ς53, agg_cells, h1]
theorem chooser_hard (P : Pol) (q mb : Nat) (a : Int) (w : World) (ch : Chr w q mb P) (h1 : 1 ≤ a) (h2 : a ≤ 16384) :
  Calls prog 159 #[Kh q, Kg a] w (Ret (fun v w' => v = .bool (hardM P (facs a) a) ∧ Ch No w w')) := by
 have lq := ch.lt
 obtain ⟨FA, fc, S, bq, sl, hS, hfl, hqm⟩ := id ch
 refine Ku func159 O ntmps159 O (Kb (Ww O O (Wz (Qe ?_))))
 refine Qb (Wu O O (Oq (Qi call196 O (primes_Factors _ _ (by omega) (by omega))) O ?_))
 rintro _ w1 ⟨fA1, fk1, rfl, fs1, fl1, c1⟩
 have z1 := c1.size
 refine Om (Cs υ77 O) O (Wu O O (Ka (Qt (Kf (σ := Nat) (fun i => [(0, Kh q), (1, Kg a), (8, .slice fA1 (facs a).length fk1), (9, Kg (facs a).length), (10, Kg i)]) (fun i w' => w' = w1 ∧ i ≤ (facs a).length ∧ ((facs a).take i).any (fun q => decide (q > P.prime)) = false) (fun i => (facs a).length - i) 0 ?_ ?_))))
 · exact ⟨O, Nat.zero_le _, O⟩
 rintro i _ ⟨rfl, i1, hn⟩
 refine Kb (Om (Co O O) O (Wz (Qj O (fun hc1 => ?_) (fun hc1 => ?_))))
 ·
  refine Qn (Qa (Qe (Qt (Qe ?_))))
  have hxi : (facs a)[i]? = some ((facs a).getD ((i : Int)).toNat 0) := by rw [Int.toNat_natCast, List.getD, List.getElem?_eq_getElem (by omega)]; rfl
  refine Qb (Om (Qs υ77 ς3 O O (fs1.ne (by omega))) O (Om (Qg ι3 O (fs1.get 0 (by omega) (by omega))) O (Ww O O (Wy ?_))))
  refine Wu O O (Wu O O (Om (Qq O) O (Om (Qh υ194 O ς79 O O O) O (Om (Qh υ79 O ς3 O O O) O ?_))))
  have bq_1 := bq.keep c1
  refine Om (Qg ι3 O (bq_1.cell O)) O (Om (Rb O O) O (Ka (Qj O (fun hc2 => ?_) (fun hc2 => ?_))))
  ·
   refine Kb (Wu O O (Om (Ro O O) O (Ww O O (Ka (Qp ?_)))))
   refine Cb (Qw (Qw (Cb (Qw (Qx O O (Kx ?_))))))
   have CH_1 := c1
   refine ⟨?_, CH_1⟩
   have hm : (facs a).any (fun q => decide (q > P.prime)) = true := List.any_eq_true.2 ⟨_, List.mem_of_getElem? hxi, by simpa using hc2⟩
   unfold hardM; rw [hm]; rfl
  refine Qn (Ql (Qa (Qb ?_)))
  refine Om (Cd O O) O ?_
  refine Wu O O (Qf ?_)
  refine Ke (i + 1) ?_
  refine ⟨O, by omega, ?_⟩
  rw [List.take_add_one, hxi, List.any_append, hn]
  simpa using Int.not_lt.1 hc2
 refine Cn (Qk (Qk (Qy (Qa (Kb (Ww O O ?_))))))
 refine Ka (Qp (Qx O O (Kx ?_)))
 have CH_1 := c1
 refine ⟨?_, CH_1⟩
 have : i = (facs a).length := by omega
 subst this; rw [List.take_length] at hn
 unfold hardM; rw [hn]; rfl
theorem fine_two (a : Int) (w : World) (h1 : 1 ≤ a) (h2 : a ≤ 1073741824) :
  Calls prog 246 #[Kg a, Kg 2] w (Ret (fun v w' => (∃ b, v = .bool b ∧ (b = true ↔ ∃ j : Nat, a = 2 ^ j)) ∧ w = w')) := by
 refine Ku func246 O ntmps246 O (Kb (Ww O O (Wz (Qe ?_))))
 refine Qb (Ww O O (Ka (Qt (Kf (σ := Int × Int) (fun (p, n) => [(0, Kg n), (1, Kg 2), (5, Kg p)]) (fun (p, n) w' => w = w' ∧ 1 ≤ n ∧ n ≤ a ∧ (∃ j : Nat, a = n * 2 ^ j) ∧ (p = 2 ∧ n = a ∨ p = 3 ∧ n % 2 = 1)) (fun (p, n) => (3 - p).toNat) (2, a) ?_ ?_))))
 · exact ⟨O, h1, Int.le_refl _, ⟨0, by simp⟩, .inl ⟨O, O⟩⟩
 rintro ⟨p, n⟩ _ ⟨rfl, n1, n2, n3, n4⟩
 have p1 : 2 ≤ p ∧ p ≤ 3 := by omega
 have pp : p = 2 ∧ p * p = 4 ∨ p = 3 ∧ p * p = 9 := by rcases n4 with ⟨rfl, _⟩ | ⟨rfl, _⟩ <;> simp
 refine Qe (Kb (Wu O O (Wu O O (Om (Ro O O) O (Wu O O ?_)))))
 refine Re (b := _) 6 9 15 O (fun hc1 Jhc1 => by
   try simp only [bX] at hc1
   refine Wu O O (Wu O O ?_)
   refine Om (Cy O O) O ?_
   refine Wu O O (Om (Ro O O) O (Om (Qr O O) O ?_))
   exact (Qo O (Qo O (Qo O (Qo O (Qo O Jhc1)))))) (fun hc1 Jhc1 => by
   refine Oy O (Oy O (Oy O (Oy O (Oy O (Om (Qm O O) O ?_)))))
   exact (Qo O (Qo O (Qo O (Qo O (Qo O Jhc1)))))) ?_
 refine Ka (Cq O (fun hc2 => ?_) (fun hc2 => ?_))
 ·
  try simp only [bX] at hc2
  refine Qn (Qa (Qe (Qt (Qt (Kf (σ := Int) (fun m => [(0, Kg m), (1, Kg 2), (5, Kg p)]) (fun m w' => w = w' ∧ 1 ≤ m ∧ m ≤ a ∧ (∃ j : Nat, a = m * 2 ^ j)) (fun m => m.toNat) n ?_ ?_)))))
  · exact ⟨O, n1, n2, n3⟩
  rintro m _ ⟨rfl, m1, m2, m3⟩
  have e : p = 2 := by omega
  refine Qe (Kb (Wu O O (Wu O O (Om (Rq O O) O (Om (Cg O O) O (Qf ?_))))))
  refine Qa (Qj O (fun hc3 => ?_) (fun hc3 => ?_))
  ·
   refine Qn (Qa (Qt (Qb (Wu O O (Wu O O (Om (Wc O O (by omega) (by omega) (by omega)) O (Ww O O ?_)))))))
   refine Qf (Ql ?_)
   refine Ce (m / p) (by first | (rw [e]; omega) | (dsimp only; rw [e]; omega)) ?_ ⟨O, O, O, trivial⟩
   rw [e] at hc3 ⊢
   exact ⟨O, by omega, by omega, half_pow m3 hc3⟩
  refine Cn (Qk (Qk (Qy (Ql (Qa (Qb (Wu O O ?_)))))))
  refine Om (Cd O O) O ?_
  refine Ww O O (Qf ?_)
  refine Ke (p + 1, m) ?_
  exact ⟨O, m1, m2, m3, .inr ⟨by omega, by rw [e] at hc3; omega⟩⟩
 try simp only [bX] at hc2
 refine Cn (Qk (Qk (Qy (Qa (Kb (Wu O O ?_))))))
 refine Wu O O (Om (Ro O O) O (Ww O O (Ka (Qp (Qx O O (Kx ?_))))))
 exact ⟨⟨_, O, fine_end n1 n2 n3 (by omega)⟩, O⟩
theorem primes_Smooth (a : Int) (w : World) (h1 : 1 ≤ a) (h2 : a ≤ 1048576) :
  Calls prog 197 #[Kg a, Kg 2] w (Ret (fun v w' => v = .tuple #[Kg (up2 a), .nilIface] ∧ w = w')) := by
 have hu := up2_spec h1
 have hu2 := up2_le (j := 20) h1
 simp only [Int.reducePow] at hu2
 refine Ku func197 O ntmps197 O (Kb (Ww O O (Ww O O (Wz ?_))))
 refine Kb (Wu O O (Om (Co O O) O (Wu O O ?_)))
 refine Cz (b := _) 3 8 11 O (fun hc1 Jhc1 => by
   refine Oy O (Oy O (Om (Qr O O) O ?_))
   exact (Qo O (Qo O Jhc1))) (fun hc1 Jhc1 => by
   try simp only [bX] at hc1
   refine Wu O O (Om (Rb O O) O (Om (Qm O O) O ?_))
   exact (Qo O (Qo O Jhc1))) ?_
 refine Wu O O ?_
 refine Cz (b := _) 3 12 15 O (fun hc2 Jhc2 => by
   refine Oy O (Oy O (Om (Qr O O) O ?_))
   exact (Qo O (Qo O Jhc2))) (fun hc2 Jhc2 => by
   try simp only [bX] at hc2
   refine Wu O O (Om (Co O O) O (Om (Qm O O) O ?_))
   exact (Qo O (Qo O Jhc2))) ?_
 refine Ka (Cq O (fun hc3 => ?_) (fun hc3 => ?_))
 ·
  try simp only [bX] at hc3
  omega
 try simp only [bX] at hc3
 refine Qn (Qa (Qe (Qt (Kf (σ := Int) (fun x => [(0, Kg x), (1, Kg 2)]) (fun x w' => w = w' ∧ a ≤ x ∧ x ≤ up2 a) (fun x => (up2 a - x).toNat) a ?_ ?_))))
 · exact ⟨O, Int.le_refl _, hu.2.1⟩
 rintro x _ ⟨rfl, x1, x2⟩
 refine Qe (Kb (Wu O O (Wu O O (Oq (Qi call246 O (fine_two _ _ (by omega) (by omega))) O ?_))))
 rintro _ _ ⟨⟨fb, rfl, hfb⟩, rfl⟩
 refine Om (Rm O) O (Ka (Cq O (fun hc4 => ?_) (fun hc4 => ?_)))
 ·
  try simp only [bX] at hc4
  refine Qn (Qa (Qt (Qb (Wu O O ?_))))
  refine Om (Cd O O) O ?_
  refine Ww O O (Qf (Ql ?_))
  refine Ce (x + 1) (by have hne : x ≠ up2 a := fun e => (by rw [e] at hfb; have := hfb.2 hu.1; simp [this] at hc4) ; omega) ?_ ⟨O, O, trivial⟩
  have hne : x ≠ up2 a := fun e => (by rw [e] at hfb; have := hfb.2 hu.1; simp [this] at hc4)
  exact ⟨O, by omega, by omega⟩
 try simp only [bX] at hc4
 refine Cn (Qk (Qk (Qy (Qa (Kb (Wu O O ?_))))))
 refine Ww O O (Ww O O (Ka (Qp (Ra O O O (Kx (⟨?_, O⟩))))))
 have hb : fb = true := by simpa using hc4
 obtain ⟨j, hj⟩ := hfb.1 hb
 have := hu.2.2 j (by omega)
 have e : x = up2 a := by omega
 rw [e]
theorem chirp_Size (a : Int) (w : World) (h1 : 1 ≤ a) (h2 : a ≤ 8192) :
  Calls prog 160 #[Kg a] w (Ret (fun v w' => v = .tuple #[Kg (up2 (2 * a - 1)), .nilIface] ∧ w = w')) := by
 have hu2 := up2_le (x := 2 * a - 1) (j := 14)
 simp only [Int.reducePow] at hu2
 refine Ku func160 O ntmps160 O (Kb (Ww O O (Ww O O (Wz ?_))))
 refine Kb (Wu O O (Om (Co O O) O (Wu O O ?_)))
 refine Cz (b := _) 3 8 11 O (fun hc1 Jhc1 => by
   refine Oy O (Oy O (Om (Qr O O) O ?_))
   exact (Qo O (Qo O Jhc1))) (fun hc1 Jhc1 => by
   try simp only [bX] at hc1
   refine Wu O O (Om (Rb O O) O (Om (Qm O O) O ?_))
   exact (Qo O (Qo O Jhc1))) ?_
 refine Ka (Cq O (fun hc2 => ?_) (fun hc2 => ?_))
 ·
  try simp only [bX] at hc2
  omega
 try simp only [bX] at hc2
 refine Qn (Qa (Kb (Wu O O ?_)))
 refine Om (Cy O O) O ?_
 refine Om (Rg O O) O ?_
 refine Oq (Qi call197 O (primes_Smooth _ _ (by omega) (by omega))) O ?_
 rintro _ _ ⟨rfl, rfl⟩
 refine Wu O O (Om (Qu O O) O (Om (Qu O O) O (Ww O O (Ww O O (Wz ?_)))))
 refine Kb (Wu O O (Om (Cr υ28 O) O (Wu O O (Wu O O (Om (Rb O O) O (Om (Qm O O) O ?_))))))
 refine Ka (Qj O (fun hc3 => ?_) (fun hc3 => ?_))
 · omega
 refine Qn (Qa (Kb (Wu O O (Ww O O (Ww O O (Qf ?_))))))
 refine Qa (Qp (Ra O O O (Kx ?_)))
 exact ⟨O, O⟩
theorem offer (o : Ord) (cost : Int) (A : Option Addr) (c : Nat) (r : Ord × Int) (B : Option Addr) (e b : Nat) (S : Nat → Prop) (w : World) (bb : Bk w b (pricedC r B e) 149) (kd : RdK S w A o.kids) (kb : RdK S w B r.1.kids) (hS : ¬ S b) :
  Calls prog 153 #[ordV o A c, Kg cost, Kh b] w (Ret (fun v w' => v = .tuple #[] ∧ (∃ A' c', Bk w' b (pricedC (offerM r o cost) A' c') 149 ∧ RdK S w' A' (offerM r o cost).1.kids) ∧ Ch (Is b) w w')) := by
 have lb := bb.lt
 refine Ku func153 O ntmps153 O (Kb (Km (Cp O) O ?_))
 intro p1 w1 b3 c1 e1 z1
 refine Wy (Om (Qh υ149 O ς3 O O O) O ?_)
 have bb_1 := bb.keep c1
 refine Om (Qg ι3 O (bb_1.cell O)) O (Om (Co O O) O (Wu O O ?_))
 refine Cz (b := _) 5 8 13 O (fun hc1 Jhc1 => by
   refine Oy O (Oy O (Oy O (Oy O (Om (Qr O O) O ?_))))
   exact (Qo O (Qo O (Qo O (Qo O Jhc1))))) (fun hc1 Jhc1 => by
   try simp only [bX] at hc1
   refine Wu O O (Om (Qh υ149 O ς3 O O O) O (Om (Qg ι3 O (bb_1.cell O)) O (Om (Co O O) O (Om (Qm O O) O ?_))))
   exact (Qo O (Qo O (Qo O (Qo O Jhc1))))) ?_
 refine Ka (Cq O (fun hc2 => ?_) (fun hc2 => ?_))
 ·
  try simp only [bX] at hc2
  refine Qb (Om (Qz ι53 ς53 O O (b3.all' O)) O (Wu O O (Om (Ct O (bld149_0_1w7 O)) O (Ks (Cl ς149 O O O O bb_1) O ?_))))
  intro w2 c2 z2 bb_2
  refine Qf (Rp O (Kx ?_))
  have eo : offerM r o cost = (o, cost) := by unfold offerM; rw [if_pos hc2]
  have CH_1 := (Ch.refl (Is b) w).and c1
  have CH_2 : Ch (Is b) w w2 := CH_1.then c2
  refine ⟨O, ⟨A, c, ?_, ?_⟩, CH_2⟩
  · rw [eo]; exact bb_2
  have kd_1 := kd.keep c1
  have kd_2 := kd_1.to c2 (by first | exact fun _ _ _ _ => id | (intro q h1 h2 hx h3; omega) | exact fun q h1 h2 hx h3 => hS (h3 ▸ h2))
  · rw [eo]; exact kd_2
 try simp only [bX] at hc2
 refine Qn (Rp O (Kx ?_))
 have eo : offerM r o cost = r := by unfold offerM; rw [if_neg (by omega)]
 have CH_1 := (Ch.refl (Is b) w).and c1
 refine ⟨O, ⟨B, e, ?_, ?_⟩, CH_1⟩
 · rw [eo]; exact bb_1
 have kb_1 := kb.keep c1
 · rw [eo]; exact kb_1
end Go.Tm
namespace Go.Tm
open Go.RowKit
inductive Tr where
  | nil
  | mv (i : Nat) (t : Tr)
  | wk (i : Nat) (t : Tr)
  | two (i : Nat) (s : Tr) (j : Nat) (t : Tr)
def Tr.len : Tr → Nat → Bool
 | .nil, n => Nat.beq n 0
 | .mv _ t, n + 1 => t.len n
 | .wk _ t, n + 1 => t.len n
 | .two _ s _ t, n + 1 => s.len n && t.len n
 | _, 0 => false
section
variable {P : Program} {md : Region.Mode} {ops : Array Oper} {Q : Exit → Act → World → Prop} {S : World → Prop} {n : Nat} {L : Array Bool → Act → World → Prop}
def Region.treeB (md : Region.Mode) (ops : Array Oper) (n : Nat) : Tr → Array Bool → Bool
 | .nil, listed => Region.seqB md ops (ops.size - n) n listed
 | .mv i r, listed => Nat.blt i n && (Region.ready md ops listed).contains i && Region.free md ops listed i && Region.treeB md ops n r (listed.setIfInBounds i true)
 | .wk i r, listed => Nat.blt i n && decide (Region.ready md ops listed = [i]) && Region.treeB md ops n r (listed.setIfInBounds i true)
 | .two i s j t, listed => Nat.blt i n && Nat.blt j n && decide (Region.ready md ops listed = [i, j]) && Region.treeB md ops n s (listed.setIfInBounds i true) && Region.treeB md ops n t (listed.setIfInBounds j true)
def Region.treeOk (md : Region.Mode) (ops : Array Oper) (n : Nat) (t : Tr) : Bool :=
 Region.noSelect ops && Region.waitB md ops n && t.len n && Region.treeB md ops n t (Array.replicate ops.size false)
def wpTr (P : Program) (ops : Array Oper) (Q : Exit → Act → World → Prop) (S : World → Prop) (Lq : Act → World → Prop) : Tr → Act → World → Prop
 | .nil, a, w => Lq a w
 | .mv i r, a, w => ∃ oi v, ops[i]? = some oi ∧ YieldsIf P ops S oi v a ∧ wpTr P ops Q S Lq r (a.put oi.dst v) w
 | .wk i r, a, w => wpOp P ops Q i (fun a' w' => S w' ∧ wpTr P ops Q S Lq r a' w') a w
 | .two i s j t, a, w => wpOp P ops Q i (fun a' w' => S w' ∧ wpTr P ops Q S Lq s a' w') a w ∧ wpOp P ops Q j (fun a' w' => S w' ∧ wpTr P ops Q S Lq t a' w') a w
theorem wpAnyHL_tree {Lq : Act → World → Prop} (hsel : Region.noSelect ops = true) (hwt : Region.waitB md ops n = true) (hQ : ∀ c a d v w, Q (.panic c) (Act.put a d v) w → Q (.panic c) a w) :
  ∀ (t : Tr) (m : Nat) (listed : Array Bool) (a : Act) (w : World), t.len m = true → HeadInv md ops n listed → Region.treeB md ops n t listed = true → S w → wpTr P ops Q S Lq t a w →
  wpAnyHL P md ops Q S n (fun listed' a' w' => Region.seqB md ops (ops.size - n) n listed' = true ∧ Lq a' w') m listed a w
 | .nil, m, listed, a, w, hm, _, hB, hS, h => by
  have : m = 0 := Nat.eq_of_beq_eq_true hm
  subst this
  exact ⟨hB, h⟩
 | .mv i r, 0, _, _, _, hm, _, _, _, _ => by cases hm
 | .wk i r, 0, _, _, _, hm, _, _, _, _ => by cases hm
 | .two i s j t, 0, _, _, _, hm, _, _, _, _ => by cases hm
 | .mv i r, m + 1, listed, a, w, hm, inv, hB, hS, h => by
  simp only [Region.treeB, Bool.and_eq_true, Nat.blt_eq] at hB
  obtain ⟨⟨⟨hin, hr⟩, hf⟩, hB'⟩ := hB
  obtain ⟨oi, v, hoi, hy, hK⟩ := h
  have hr' : i ∈ Region.ready md ops listed := by simpa using hr
  exact wpAnyHL_first hoi (Region.noSelect_spec hsel) hwt hin (fun c a w => hQ c a _ _ w) (fun listed' a' w' hL => seqB_ready hL.1) m listed a w inv (Region.free_spec hoi hf) hr' hy hS
   (wpAnyHL_tree hsel hwt hQ r m _ _ w hm (inv.set hr' hin) hB' hS hK)
 | .wk i r, m + 1, listed, a, w, hm, inv, hB, hS, h => by
  simp only [Region.treeB, Bool.and_eq_true, Nat.blt_eq, decide_eq_true_eq] at hB
  obtain ⟨⟨hin, hr⟩, hB'⟩ := hB
  have hr' : i ∈ Region.ready md ops listed := by rw [hr]; simp
  refine ⟨by rw [hr]; simp, fun j hj => ?_⟩
  rw [hr] at hj
  have hji : j = i := by simpa using hj
  subst hji
  exact ⟨hin, wpOp_mono (fun a' w' h' => ⟨h'.1, wpAnyHL_tree hsel hwt hQ r m _ a' w' hm (inv.set hr' hin) hB' h'.1 h'.2⟩) h⟩
 | .two i s j t, m + 1, listed, a, w, hm, inv, hB, hS, h => by
  simp only [Region.treeB, Bool.and_eq_true, Nat.blt_eq, decide_eq_true_eq] at hB
  obtain ⟨⟨⟨⟨hi, hj⟩, hr⟩, hs⟩, ht⟩ := hB
  simp only [Tr.len, Bool.and_eq_true] at hm
  have hri : i ∈ Region.ready md ops listed := by rw [hr]; simp
  have hrj : j ∈ Region.ready md ops listed := by rw [hr]; simp
  refine ⟨by rw [hr]; simp, fun x hx => ?_⟩
  rw [hr] at hx
  simp only [List.mem_cons, List.not_mem_nil, or_false] at hx
  rcases hx with rfl | rfl
  · exact ⟨hi, wpOp_mono (fun a' w' h' => ⟨h'.1, wpAnyHL_tree hsel hwt hQ s m _ a' w' hm.1 (inv.set hri hi) hs h'.1 h'.2⟩) h.1⟩
  · exact ⟨hj, wpOp_mono (fun a' w' h' => ⟨h'.1, wpAnyHL_tree hsel hwt hQ t m _ a' w' hm.2 (inv.set hrj hj) ht h'.1 h'.2⟩) h.2⟩
theorem any_of_tree {a : Act} {w : World} {l : List Oper} (n : Nat) (t : Tr) (S : World → Prop) (hB : Region.treeOk .any l.toArray n t = true)
  (hQ : ∀ c a d v w, Q (.panic c) (Act.put a d v) w → Q (.panic c) a w) (hS : S w.drew) (h : wpTr P l.toArray Q S (fun a' w' => wpList P l.toArray Q (l.drop n) a' w') t a w.drew) : wpAny P .any l.toArray Q l.toArray.size (Array.replicate l.toArray.size false) a w.drew := by
 simp only [Region.treeOk, Bool.and_eq_true] at hB
 obtain ⟨⟨⟨hsel, hwt⟩, hlen⟩, hord⟩ := hB
 have hn : n ≤ l.length := by
  simp only [Region.waitB, Bool.or_eq_true, Bool.and_eq_true, decide_eq_true_eq, List.size_toArray] at hwt
  rcases hwt with h | ⟨⟨h, _⟩, _⟩ <;> omega
 have hdl : (l.drop n).length = l.toArray.size - n := by simp
 have inv0 : HeadInv .any l.toArray n (Array.replicate l.toArray.size false) :=
  ⟨by simp, fun j oj _ hl => (by rw [getD_replicate_false] at hl; cases hl), fun t _ ht => getD_in (by simpa using ht) (getD_replicate_false _ _)⟩
 have H := wpAnyHL_tree hsel hwt hQ t n _ a w.drew hlen inv0 hord hS h
 have := wpAny_of_headH (g := l.toArray.size - n) (fun listed a' w' hL => by
  have := wpAny_of_seq (md := .any) (Q' := Q) (l.drop n) n listed a' w' (fun j => by simp [List.getElem?_drop]) (by rw [hdl]; exact hL.1) hL.2
  rwa [hdl] at this) _ _ _ _ H
 rw [show n + (l.toArray.size - n) = l.toArray.size by simp only [List.size_toArray]; omega] at this
 exact this
end
section
variable {P : Program} {n : Fr} {m : Nat} {rr : Option Nat} {ops : Array Oper} {Q : Exit → Act → World → Prop} {S : World → Prop} {Lq : Act → World → Prop} {k : K} {w : World} {o : Oper} {t s : Tr}
def VT (P : Program) (n : Fr) (ops : Array Oper) (Q : Exit → Act → World → Prop) (S : World → Prop) (Lq : Act → World → Prop) (t : Tr) (k : K) (w : World) : Prop := ∀ a, Fits n k a → wpTr P ops Q S Lq t a w
theorem Wj {id : Nat} {l : List Oper} (m : Nat) (t : Tr) (S : World → World → Prop) (hm : P.follows .mixedOrders = true) (hB : Region.treeOk .any l.toArray m t = true) (hS : ∀ w1, w1 = w.drew → S w1 w1)
  (h : ∀ w1, w1 = w.drew → VT P n l.toArray (NoPanic Q) (S w1) (fun a' w' => wpList P l.toArray (NoPanic Q) (l.drop m) a' w') t k w1) : VC (r := none) P n (.region id l.toArray true) Q k w :=
 fun a ha => wpIn_none.2 <| wp_region_noPanic (wp_region_any hm (any_of_tree m t (S w.drew) hB (fun _ _ _ _ _ h => h) (hS _ rfl) (h _ rfl a ha)))
theorem VC.drawsTR {id : Nat} {l : List Oper} (m : Nat) (t : Tr) (S : World → World → Prop) (hm : P.follows .mixedOrders = true) (hd : l.all notDef = true) (hB : Region.treeOk .any l.toArray m t = true) (hS : ∀ w1, w1 = w.drew → S w1 w1)
  (h : ∀ w1, w1 = w.drew → VT P n l.toArray (NoPO Q) (S w1) (fun a' w' => wpList P l.toArray (NoPO Q) (l.drop m) a' w') t k w1) : VC (r := rr) P n (.region id l.toArray true) Q k w :=
 fun a ha => wpIn_region_any hm (any_fw (by simpa using hd) _ _ a _ (any_of_tree m t (S w.drew) hB (fun _ _ _ _ _ h => h) (hS _ rfl) (h _ rfl a ha)))
theorem Wl {i j : Nat} (h1 : VT P n ops Q S Lq (.wk i s) k w) (h2 : VT P n ops Q S Lq (.wk j t) k w) : VT P n ops Q S Lq (.two i s j t) k w := fun a ha => ⟨h1 a ha, h2 a ha⟩
theorem Rc {i d : Nat} {v : Value} (hr : ∀ w', S w' → Rn P n k w' o v) (ho : ops[i]? = some o) (hd : o.dst = some d) (hg : guardOk ops k o.guard = some true) (hn : Nat.blt d n.sz = true)
  (h : VT P n ops Q S Lq t ((d, v) :: k) w) : VT P n ops Q S Lq (.mv i t) k w := fun a ha =>
 ⟨o, v, ho, .inl ⟨guardOk_wanted hg ha, fun w' hw' => hr w' hw' a ha⟩, by rw [hd]; exact h _ (ha.put hn v)⟩
theorem Rs {i d : Nat} {R : Value → World → Prop} (hw : Wk P n k w o R) (ho : ops[i]? = some o) (hd : o.dst = some d) (hg : guardOk ops k o.guard = some true) (hn : Nat.blt d n.sz = true)
  (h : ∀ v w', R v w' → S w' ∧ VT P n ops Q S Lq t ((d, v) :: k) w') : VT P n ops Q S Lq (.wk i t) k w := by
 intro a ha
 simp only [wpTr, wpOp, ho]
 rw [guardOk_wanted hg ha]
 simp only [if_true]
 left
 refine hw a Q _ ha fun v w' hR => ?_
 rw [hd]
 exact ⟨(h v w' hR).1, (h v w' hR).2 _ (ha.put hn v)⟩
theorem Wm {i : Nat} {R : Value → World → Prop} (hw : Wk P n k w o R) (ho : ops[i]? = some o) (hd : o.dst = none) (hg : guardOk ops k o.guard = some true)
  (h : ∀ v w', R v w' → S w' ∧ VT P n ops Q S Lq t k w') : VT P n ops Q S Lq (.wk i t) k w := by
 intro a ha
 simp only [wpTr, wpOp, ho]
 rw [guardOk_wanted hg ha]
 simp only [if_true]
 left
 refine hw a Q _ ha fun v w' hR => ?_
 rw [hd]
 exact ⟨(h v w' hR).1, (h v w' hR).2 _ ha⟩
theorem Ru {i d : Nat} {v : Value} (hr : Rn P n k w o v) (ho : ops[i]? = some o) (hd : o.dst = some d) (hg : guardOk ops k o.guard = some true) (hn : Nat.blt d n.sz = true) (hS : S w)
  (h : VT P n ops Q S Lq t ((d, v) :: k) w) : VT P n ops Q S Lq (.wk i t) k w :=
 Rs (R := fun u w' => u = v ∧ w' = w) (Rv fun a ha => ⟨v, w, hr a ha, rfl, rfl⟩) ho hd hg hn (by rintro u w' ⟨rfl, rfl⟩; exact ⟨hS, h⟩)
theorem Rr {l : List Oper} {m : Nat} (h : VO P n ops Q (l.drop m) k w) : VT P n ops Q S (fun a' w' => wpList P ops Q (l.drop m) a' w') .nil k w := fun a ha => h a ha
def CutPost (n : Fr) {σ : Type} (kf : σ → K) (J : σ → World → Prop) (a' : Act) (w' : World) : Prop := ∃ s, J s w' ∧ Fits n (kf s) a'
theorem VC.cut {x y : Code} {σ : Type} (kf : σ → K) (J : σ → World → Prop) (h1 : VC (r := rr) P n x (Exit.then (CutPost n kf J) Q) k w) (h2 : ∀ s w, J s w → VC (r := rr) P n y Q (kf s) w) : VC (r := rr) P n (.seq x y) Q k w := by
 intro a ha
 refine wpIn_seq (wpIn_mono (h1 a ha) fun e a' w' hq => ?_)
 cases e <;> first | exact hq | skip
 obtain ⟨s, hJ, hf⟩ := hq
 exact h2 s w' hJ a' hf
theorem Rt {σ : Type} {kf : σ → K} {J : σ → World → Prop} (s : σ) (hJ : J s w) (hk : kall k (kf s)) : VQ n (Exit.then (CutPost n kf J) Q) .normal k w := fun _ ha => ⟨s, hJ, ha.less hk⟩
end
end Go.Tm
