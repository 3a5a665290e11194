/- Lemmas of this claim, joined by program. Walks of functions: half, in general, and the document's; the laws HalfForward and HalfTwo; what a row's laid variables give. Conditions: each lemma names its own. -/
import Derived.Test.YtpfglkohcfjelaaGreatDoorJ16
import Derived.LaidEql
import Derived.Test.YtpfglkohcfjelaaGreatDoorRows
import Derived.ProofKit
import Derived.LaidMore
import Derived.LaidSub
import Derived.OpenShut
import Derived.Stop.Joined
import Derived.Stop.LaidErr
import Derived.Lib.LaidTab
import Derived.Deep.Slices
import Derived.Deep.Fields
import Derived.Deep.OwnRows
import Derived.WideKeyArgs
import Derived.ChangeSlices
set_option linter.all false
namespace Go.Tm
set_option maxRecDepth 100000
open Go.RowKit Go.Proofs Go.Proofs.Tryz
abbrev halv : Fl := cn 4602678819172646912
def evC (a b : Cx) : Cx := timesF (plusC a b) halv
def odC (a b : Cx) : Cx := timesF (lessC a b) halv
def mdC (a b : Cx) : Cx := timesF (minusI (lessC a b)) halv
def prF (X : Nat → Fl) (j : Nat) : Cx := (X (2 * j), X (2 * j + 1))
def xyF (X Y : Nat → Fl) (j : Nat) : Cx := (X j, Y j)
def fH (h : Nat) (z : Nat → Cx) (k : Nat) : Cx := plusC (evC (z (k % h)) (conjC (z ((h - k) % h)))) (twistF (mdC (z (k % h)) (conjC (z ((h - k) % h)))) (2 * h) k)
def iZ (h : Nat) (f : Nat → Cx) (k : Nat) : Cx := plusC (evC (f k) (conjC (f (h - k)))) (timesI (twistF (odC (f k) (conjC (f (h - k)))) (2 * h) ((2 * h - k) % (2 * h))))
noncomputable def hF (n : Nat) (X : Nat → Fl) (k : Nat) : Cx := if n = 1 then (X 0, fl0) else fH (n / 2) (trM (oOf (n / 2)) (prF X)) k
theorem Xd {X D I : Nat → Prop} {n m : Nat} (hX : ∀ q, X q → q < n) (hD : ∀ q, q < n → ¬ D q := by first | exact fun _ _ => id | (intro q h; omega)) : ∀ q, q < m → X q → I q → ¬ D q := fun q _ h _ => hD q (hX q h)
theorem fH_of {h n k : Nat} {Z : Nat → Cx} {za zb c9 c10 c11 c12 c13 c14 c15 : CB} (ha : cx za = Z (k % h)) (hb : cx zb = Z ((h - k) % h)) (F9 : cx c9 = conjC (cx zb)) (F10 : cx c10 = (fop .sub (cn za.1) (cn c9.1), fop .sub (cn za.2) (cn c9.2))) (F11 : cx c11 = minusI (cx c10)) (F12 : cx c12 = timesF (cx c11) halv) (F13 : cx c13 = twistF (cx c12) n k) (F14 : cx c14 = evC (cx za) (cx c9)) (F15 : cx c15 = (fop .add (cn c14.1) (cn c13.1), fop .add (cn c14.2) (cn c13.2))) (hn : n = 2 * h) : cx c15 = fH h Z k := by
 subst hn
 have e1 : (fop .add (cn c14.1) (cn c13.1), fop .add (cn c14.2) (cn c13.2)) = plusC (cx c14) (cx c13) := rfl
 have e2 : (fop .sub (cn za.1) (cn c9.1), fop .sub (cn za.2) (cn c9.2)) = lessC (cx za) (cx c9) := rfl
 unfold fH mdC
 rw [F15, e1, F14, F13, F12, F11, F10, e2, F9, ha, hb]
theorem iZ_of {h n k q : Nat} {Z : Nat → Cx} {za zb c9 c10 c11 c12 c13 c14 : CB} (ha : cx za = Z k) (hb : cx zb = Z (h - k)) (F9 : cx c9 = conjC (cx zb)) (F10 : cx c10 = odC (cx za) (cx c9)) (F11 : cx c11 = twistF (cx c10) n q) (F12 : cx c12 = evC (cx za) (cx c9)) (F13 : cx c13 = timesI (cx c11)) (F14 : cx c14 = (fop .add (cn c12.1) (cn c13.1), fop .add (cn c12.2) (cn c13.2))) (hn : n = 2 * h) (hq : q = (2 * h - k) % (2 * h)) : cx c14 = iZ h Z k := by
 subst hn hq
 have e1 : (fop .add (cn c12.1) (cn c13.1), fop .add (cn c12.2) (cn c13.2)) = plusC (cx c12) (cx c13) := rfl
 unfold iZ
 rw [F14, e1, F12, F13, F11, F10, F9, ha, hb]
theorem md_of {za zb c9 c10 c11 c12 : CB} {a b : Cx} (ha : cx za = a) (hb : cx zb = b) (F9 : cx c9 = conjC (cx zb)) (F10 : cx c10 = (fop .sub (cn za.1) (cn c9.1), fop .sub (cn za.2) (cn c9.2))) (F11 : cx c11 = minusI (cx c10)) (F12 : cx c12 = timesF (cx c11) halv) : cx c12 = mdC a (conjC b) := by
 have e2 : (fop .sub (cn za.1) (cn c9.1), fop .sub (cn za.2) (cn c9.2)) = lessC (cx za) (cx c9) := rfl
 unfold mdC
 rw [F12, F11, F10, e2, F9, ha, hb]
theorem UsG.o {n : Nat} (us : UsG n) : (oOf n).len = n := by
 obtain ⟨r, hr, hl⟩ := us.ex
 rw [← oOf_spec hr]
 exact hl
theorem trM_ext {n : Nat} (us : UsG n) (h1 : 1 ≤ n) {x y : Nat → Cx} (h : ∀ j, j < n → x j = y j) : trM (oOf n) x = trM (oOf n) y := by
 have ho := us.o
 have hl : (oOf n).len ≠ 0 := by omega
 funext k
 exact trM_loc (GO.of_len hl) _ _ (fun j hj => h j (by rw [← len_sl hl] at hj; omega)) k
theorem fwd_get {n : Nat} (us : UsG n) (h1 : 1 ≤ n) {zs : List Cx} {f : Nat → Cx} (hl : zs.length = n) (hf : ∀ j, j < n → zs.getD j z0 = f j) {j : Nat} (hj : j < n) : (fwdG (bOf n) zs).getD j z0 = trM (oOf n) f j := by
 rw [us.fwd zs hl, ← trM_ext us h1 hf]
 simp only [List.getD, List.getElem?_map, List.getElem?_range hj, Option.map_some, Option.getD_some]
 rfl
theorem fwd_LY {n : Nat} (us : UsG n) (h1 : 1 ≤ n) {ys ws : List CB} {f : Nat → Cx} (hz : ws.map cx = fwdG (bOf n) (ys.map cx)) (hy : LY n f ys) : LY n (trM (oOf n) f) ws := by
 have hl : (ys.map cx).length = n := by rw [List.length_map]; exact hy.len
 refine LY.of_map hz ?_ fun j hj => fwd_get us h1 hl (fun i hi => by rw [map_getD]; exact hy.get i hi) hj
 have := congrArg List.length hz
 rw [us.fwd _ hl] at this
 simpa using this
def ivF (n : Nat) (o : Ord) (f : Nat → Cx) (k : Nat) : Cx := overC (conjC (trM o (fun j => conjC (f j)) k)) (n : Int)
theorem inv_LY {n : Nat} (us : UsG n) (h1 : 1 ≤ n) {ys ws : List CB} {f : Nat → Cx} (hz : ws.map cx = invG (bOf n) (ys.map cx)) (hy : LY n f ys) : LY n (ivF n (oOf n) f) ws := by
 have hl : ((ys.map cx).map conjC).length = n := by rw [List.length_map, List.length_map]; exact hy.len
 have hw : (fwdG (bOf n) ((ys.map cx).map conjC)).length = n := by rw [us.fwd _ hl]; simp
 unfold invG at hz
 refine LY.of_map hz ?_ fun j hj => ?_
 ·
  have := congrArg List.length hz
  rw [List.length_map, List.length_map, List.length_map, hw] at this
  exact this
 ·
  have h2 := fwd_get us h1 (f := fun j => conjC (f j)) hl (fun i hi => by
   have hi2 : i < ys.length := by rw [hy.len]; exact hi
   have := hy.get i hi
   simp only [List.getD, List.getElem?_map, List.getElem?_eq_getElem hi2, Option.map_some, Option.getD_some] at this ⊢
   rw [this]) hj
  unfold ivF
  rw [← h2, us.b.ln]
  simp only [List.getD, List.getElem?_map, List.getElem?_eq_getElem (show j < (fwdG (bOf n) ((ys.map cx).map conjC)).length by omega), Option.map_some, Option.getD_some]
theorem two_snoc {os : List Nat} {f : Nat → Cx} {j a b : Nat} (h : ∀ i, i < j → cx (os.getD (2 * i) 0, os.getD (2 * i + 1) 0) = f i) (hl : os.length = 2 * j) (hz : cx (a, b) = f j) : ∀ i, i < j + 1 → cx ((os ++ [a, b]).getD (2 * i) 0, (os ++ [a, b]).getD (2 * i + 1) 0) = f i := by
 intro i hi
 by_cases e : i = j
 ·
  subst e
  have e1 : (os ++ [a, b]).getD (2 * i) 0 = a := by rw [List.getD, List.getElem?_append_right (by omega), hl, Nat.sub_self]; rfl
  have e2 : (os ++ [a, b]).getD (2 * i + 1) 0 = b := by rw [List.getD, List.getElem?_append_right (by omega), hl, show 2 * i + 1 - 2 * i = 1 by omega]; rfl
  rw [e1, e2]; exact hz
 ·
  have e1 : (os ++ [a, b]).getD (2 * i) 0 = os.getD (2 * i) 0 := by rw [List.getD, List.getElem?_append_left (by omega)]; rfl
  have e2 : (os ++ [a, b]).getD (2 * i + 1) 0 = os.getD (2 * i + 1) 0 := by rw [List.getD, List.getElem?_append_left (by omega)]; rfl
  rw [e1, e2]; exact h i (by omega)
def tw1 (n : Nat) (z : Nat → Cx) (k : Nat) : Cx := evC (z k) (conjC (z ((n - k) % n)))
def tw2 (n : Nat) (z : Nat → Cx) (k : Nat) : Cx := mdC (z k) (conjC (z ((n - k) % n)))
section
variable {P : Program} {n : Fr} {k : K} {w : World} {d : Option Tmp} {ty : TypeId} {pos : String} {aft : Array Edge} {g : Option (Nat × Bool)}
theorem Wk.mkF0 {t e : TypeId} {by' : Nat} {x y : Operand} {ql qc : IntKind} {c : Int} (ht : P.underlying t = some (.slice e)) (hi : Inf P e (.float .f64 0) 1 by') (hx : ev k x = some (.int ql 0)) (hy : ev k y = some (.int qc c)) (h0 : 0 ≤ c := by omega) (hb : (by' : Int) * c ≤ 281474976710656 := by omega) (hm : c ≤ 281474976710656 := by omega) :
  Wk P n k w { dst := d, op := .makeSlice t x y, type := ty, pos := pos, after := aft, guard := g }
   (fun v w' => ∃ p, v = .slice (some ⟨p, 0, none⟩) 0 c.toNat ∧ FR e w' (p + 1) (some ⟨p, 0, none⟩) 0 c.toNat [] ∧ Ch No w w' ∧ p = w.heap.size ∧ w'.heap.size = w.heap.size + 1) :=
 (Wk.make ht hi hx hy (Int.le_refl _) h0 hb (by omega)).mono fun v w' ⟨p, hv, N⟩ => by
  rw [Nat.mul_one] at N
  have e1 : (Value.float .f64 0).cells = #[.float .f64 0] := rfl
  rw [e1, made_one] at N
  exact ⟨p, hv, ⟨O, .inr ⟨p, _, O, O, N.blk, Nat.zero_le _, by simp only [maxLen]; omega, by simp, by simp⟩⟩, N.ch, N.p, N.size⟩
end
theorem HalfY.rep (n : Nat) (f : Nat → Cx) : HalfY n 0 (fun _ => z0) f (List.replicate n (0, 0)) := ⟨by simp, fun i hi => by rw [if_neg (Nat.not_lt_zero _)]; simp [List.getD, List.getElem?_replicate, hi]⟩
theorem inf32w106 : Inf prog 32 (.float .f64 0) 1 8 := ⟨Tryz.t32, type32, rfl, rfl, rfl⟩
theorem inf33w106 : Inf prog 33 (.complex .f64 0 0) 1 16 := ⟨Tryz.t33, type33, rfl, rfl, rfl⟩
theorem half_even (a b c d : Nat) (w : World) :
  Calls prog 81 #[.complex .f64 a b, .complex .f64 c d] w (Ret (fun v w' => ∃ p q, v = .complex .f64 p q ∧ cx (p, q) = evC (cx (a, b)) (cx (c, d)) ∧ Ch No w w')) := by
 refine Ku func81 O ntmps81 O (Kb (Ww O O (Wy ?_)))
 refine Wu O O (Wu O O (Oq (Wk.cbin (.inl O) O O) O ?_))
 rintro _ w1 ⟨p1, q1, rfl, F1, c1⟩
 have z1 := c1.size
 refine Oq (Qi κ79 O (cplx_Times _ _ _ _)) O ?_
 rintro _ w2 ⟨p2, q2, rfl, F2, c2⟩
 have z2 := c2.size
 refine Ww O O (Ka (Qp (Qx O O (Kx ?_))))
 have CH_2 := (c1.trans c2)
 exact ⟨_, _, O, (by rw [F2, F1]; rfl), CH_2⟩
theorem half_odd (a b c d : Nat) (w : World) :
  Calls prog 121 #[.complex .f64 a b, .complex .f64 c d] w (Ret (fun v w' => ∃ p q, v = .complex .f64 p q ∧ cx (p, q) = odC (cx (a, b)) (cx (c, d)) ∧ Ch No w w')) := by
 refine Ku func121 O ntmps121 O (Kb (Ww O O (Wy ?_)))
 refine Wu O O (Wu O O (Oq (Wk.cbin (.inr O) O O) O ?_))
 rintro _ w1 ⟨p1, q1, rfl, F1, c1⟩
 have z1 := c1.size
 refine Oq (Qi κ79 O (cplx_Times _ _ _ _)) O ?_
 rintro _ w2 ⟨p2, q2, rfl, F2, c2⟩
 have z2 := c2.size
 refine Ww O O (Ka (Qp (Qx O O (Kx ?_))))
 have CH_2 := (c1.trans c2)
 exact ⟨_, _, O, (by rw [F2, F1]; rfl), CH_2⟩
set_option maxHeartbeats 1000000 in
theorem half_trG0 (SX : Nat → Prop) (X : Option Addr) (n xc : Nat) (ys : List CB) (f : Nat → Cx) (w : World) (sx : SlR SX w X n 1 (ys.map cxV)) (hX : ∀ q, SX q → q < w.heap.size) (hy : LY n f ys) (hn : 1 ≤ n ∧ n ≤ 4096) (st : StT w) (tab : TabB w.heap.size w) (hG : 24 ≤ w.heap.size) :
  Calls prog 77 #[.slice X n xc, .bool false] w (Ret (fun v w' => ∃ r A k zs, v = .tuple #[.slice A n k, .nilIface] ∧ CR 33 w' r A n k zs ∧ LY n (trM (oOf n) f) zs ∧ UsG n ∧ w.heap.size < r ∧ Ch No w w')) := by
 refine Ku func77 O ntmps77 O (Kb (Ww O O (Ww O O (Wz ?_))))
 refine Qb (Wu O O (Om (Cs υ31 O) O (Oq (Qi call13 O (plan_NewG n (by omega) (by omega) _ st ((tab).up (by omega)) (by omega))) O ?_)))
 rintro _ w1 ⟨pp, PP, rfl, pl1, hpb, us, c1⟩
 have z1 := c1.size
 refine Wu O O (Om (Qu O O) O (Om (Qu O O) O (Ww O O (Ww O O (Wz ?_)))))
 refine Kb (Wu O O (Om (Cr υ28 O) O (Ka (Cc O (Qn ?_)))))
 refine Qa (Qe (Kb (Wu O O (Ka (Cc O ?_)))))
 refine Qn (Qa (Kb (Wu O O (Wu O O ?_))))
 have sx_1 := sx.keep c1
 have st_1 := st.keep c1
 refine Oq (Qi call15 O (p_ForwardN _ _ _ _ _ _ n _ ys _ sx_1 (fun q hq => by have := hX q hq; omega) pl1 (by omega) hpb us st_1 (by omega))) O ?_
 rintro _ w2 ⟨r2, A2, k2, ws, rfl, out2, hz, yo2, c2⟩
 have hlo := Ow.lt out2
 have z2 := c2.size
 refine Om (Qu O O) O (Om (Qu O O) O (Ww O O (Ww O O (Ka (Qp (Ra O O O ?_))))))
 refine Kx ?_
 have CH_2 := (c1.trans c2)
 exact ⟨_, _, _, ws, O, out2, fwd_LY us hn.1 hz hy, us, by omega, CH_2⟩
set_option maxHeartbeats 1000000 in
theorem half_trG1 (SX : Nat → Prop) (X : Option Addr) (n xc : Nat) (ys : List CB) (f : Nat → Cx) (w : World) (sx : SlR SX w X n 1 (ys.map cxV)) (hX : ∀ q, SX q → q < w.heap.size) (hy : LY n f ys) (hn : 1 ≤ n ∧ n ≤ 4096) (st : StT w) (tab : TabB w.heap.size w) (hG : 24 ≤ w.heap.size) :
  Calls prog 77 #[.slice X n xc, .bool true] w (Ret (fun v w' => ∃ r A k zs, v = .tuple #[.slice A n k, .nilIface] ∧ CR 33 w' r A n k zs ∧ LY n (ivF n (oOf n) f) zs ∧ UsG n ∧ w.heap.size < r ∧ Ch No w w')) := by
 refine Ku func77 O ntmps77 O (Kb (Ww O O (Ww O O (Wz ?_))))
 refine Qb (Wu O O (Om (Cs υ31 O) O (Oq (Qi call13 O (plan_NewG n (by omega) (by omega) _ st ((tab).up (by omega)) (by omega))) O ?_)))
 rintro _ w1 ⟨pp, PP, rfl, pl1, hpb, us, c1⟩
 have z1 := c1.size
 refine Wu O O (Om (Qu O O) O (Om (Qu O O) O (Ww O O (Ww O O (Wz ?_)))))
 refine Kb (Wu O O (Om (Cr υ28 O) O (Ka (Cc O (Qn ?_)))))
 refine Qa (Qe (Kb (Wu O O (Ka (Rd O ?_)))))
 refine Kb (Wu O O (Wu O O ?_))
 have sx_1 := sx.keep c1
 have st_1 := st.keep c1
 refine Oq (Qi call16 O (p_InverseN _ _ _ _ _ _ n _ ys _ sx_1 (fun q hq => by have := hX q hq; omega) pl1 (by omega) hpb us st_1 (by omega))) O ?_
 rintro _ w2 ⟨r2, A2, k2, ws, rfl, out2, hz, yo2, c2⟩
 have hlo := Ow.lt out2
 have z2 := c2.size
 refine Om (Qu O O) O (Om (Qu O O) O (Ww O O (Ww O O (Ka (Qp (Qw ?_))))))
 refine Ra O O O (Kx ?_)
 have CH_2 := (c1.trans c2)
 exact ⟨_, _, _, ws, O, out2, inv_LY us hn.1 hz hy, us, by omega, CH_2⟩
set_option maxHeartbeats 2000000 in
theorem half_ForwardB (SX : Nat → Prop) (X : Option Addr) (n xc : Nat) (xs : List Nat) (w : World) (sx : SlR SX w X n 1 (xs.map flV)) (hX : ∀ q, SX q → q < w.heap.size)  (h : Nat) (hn2 : n = 2 * h) (hh : 1 ≤ h) (hh2 : h ≤ 2048) (st : StT w) (tab : TabB w.heap.size w) (hG : 24 ≤ w.heap.size) :
  Calls prog 37 #[.slice X n xc] w (Ret (fun v w' => ∃ q zs, v = .tuple #[.slice (Ki q) (n / 2 + 1) (n / 2 + 1), .nilIface] ∧ CR 33 w' (q + 1) (Ki q) (n / 2 + 1) (n / 2 + 1) zs ∧ LY (n / 2 + 1) (hF n (XF xs)) zs ∧ w.heap.size ≤ q ∧ Ch No w w')) := by
 have hxl : xs.length = n := by have := sx.len; simpa using this
 have hd2 : n / 2 = h := by omega
 refine Ku func37 O ntmps37 O (Kb (Ww O O (Ww O O (Wz ?_))))
 refine Qb (Wu O O (Om (Cs υ24 O) O (Ww O O (Wz (Qe ?_)))))
 refine Qb (Wu O O (Om (Cg O O) O (Ka (Qj O (fun hc1 => ?_) (fun hc1 => ?_)))))
 · omega
 refine Qn (Qa (Qe (Kb (Wu O O (Om (Cg O O) O (Wu O O ?_))))))
 refine Cz (b := _) 4 28 32 O (fun hc2 Jhc2 => by
   refine Oy O (Oy O (Oy O (Om (Qr O O) O ?_)))
   exact (Qo O (Qo O (Qo O Jhc2)))) (fun hc2 Jhc2 => by
   try simp only [bX] at hc2
   refine Wu O O (Om (Rq O O) O (Om (Wd O O) O (Om (Qm O O) O ?_)))
   exact (Qo O (Qo O (Qo O Jhc2)))) ?_
 refine Wu O O ?_
 refine Cz (b := _) 3 33 36 O (fun hc3 Jhc3 => by
   refine Oy O (Oy O (Om (Qr O O) O ?_))
   exact (Qo O (Qo O Jhc3))) (fun hc3 Jhc3 => by
   try simp only [bX] at hc3
   refine Wu O O (Om (Rb O O) O (Om (Qm O O) O ?_))
   exact (Qo O (Qo O Jhc3))) ?_
 refine Ka (Cq O (fun hc4 => ?_) (fun hc4 => ?_))
 ·
  try simp only [bX] at hc4
  omega
 try simp only [bX] at hc4
 refine Qn (Qa (Kb (Wu O O (Om (Rn.castJ (show (n : Int) / 2 = (h : Int) by omega) (Wc O O (by omega) (by omega) (by omega))) O (Ww O O (Qf ?_))))))
 refine Qa (Kb (Wu O O (Oq (Wn υ31 inf33w106 O O (by omega) (by omega) (by omega)) O ?_)))
 rintro _ w1 ⟨p1, rfl, o1, c1, e1, z1⟩
 refine Ww O O (Wz (Kb (Wu O O (Om (Cs υ31 O) O ?_))))
 refine Wu O O (Ka (Qt ?_))
 have sx_1 := sx.keep c1
 have st_1 := st.keep c1
 have tab_1 := tab.keep c1
 have CH_1 := c1
 refine Kf (σ := Nat × List CB) (fun (j, us) => [(0, .slice X n xc), (4, Kg n), (5, Kg h), (6, .slice (Ki p1) h h), (43, Kg h), (44, Kg j)]) (fun (j, us) w' => j ≤ h ∧ HalfY h j (fun _ => z0) (prF (XF xs)) us ∧ w1.heap.size ≤ w'.heap.size ∧ CR 33 w' ((p1 + 1)) (Ki p1) h h us ∧ SlR SX w' X n 1 (xs.map flV) ∧ StT w' ∧ TabB w.heap.size w' ∧ Ch (No) w w') (fun (j, us) => h - j) (0, List.replicate h (0, 0)) ?_ ?_
 · exact ⟨(by omega), (HalfY.rep _ _), (Nat.le_refl _), o1, sx_1, st_1, tab_1, CH_1⟩
 rintro ⟨j, us⟩ w2 ⟨hj, hhu, hsz2, row_2, sx_2, st_2, tab_2, CH_2⟩
 refine Kb (Om (Co O O) O (Wz (Qj O (fun hc5 => ?_) (fun hc5 => ?_))))
 ·
  refine Qn (Qa (Qe (Qt (Kb (Wu O O (Ww O O ?_))))))
  refine Ka (Kj 15 [0, 2, 4, 6, 8, 10, 12, 14, 16, 18, 20, 22, 24, 26, 28] (At (p1 + 1)) ?_)
  intro w3 c3 z3
  have sx_3 := sx_2.keep c3
  have row_3 := row_2.keep c3
  refine Wv O O (Wv O O (Wv O O (Wv O O ?_)))
  refine Ws (Cy O O) O ?_
  refine Wt (fun hS => Qs υ24 ς32 O O ((sx_3.to hS (Xd hX)).ne (by omega))) O ?_
  refine Wt (fun hS => Qg ι32 O ((sx_3.to hS (Xd hX)).getF (by omega))) O ?_
  refine Wv O O (Wv O O ?_)
  refine Ws (Cy O O) O ?_
  refine Ws (Cd O O) O ?_
  refine Wt (fun hS => Qs υ24 ς32 O O ((sx_3.to hS (Xd hX)).ne (by omega))) O ?_
  refine Wt (fun hS => Qg ι32 O ((sx_3.to hS (Xd hX)).getF (by omega))) O ?_
  refine Ws (Rf O O) O (Ws (Qs υ31 ς33 O O (row_3.sl.ne (by omega))) O (Cj (Oz (Rj ς33 O O (by omega) row_3) O ?_)))
  rintro _ w4 ⟨o4, c4, z4⟩
  have y4 := o4.lt
  refine Qf (Ca (Ql (Qa (Qb ?_))))
  refine Om (Cd O O) O ?_
  refine Wu O O (Qf ?_)
  refine Ke (j + 1, us.set j (xs.getD (2 * j) 0, xs.getD (2 * j + 1) 0)) ?_
  have sx_4 := sx_3.to c4 (Xd hX)
  have st_3 := st_2.keep c3
  have st_4 := st_3.to c4
  have tab_3 := tab_2.keep c3
  have tab_4 := tab_3.to c4
  have CH_3 := CH_2.and c3
  have CH_4 : Ch (No) w w4 := CH_3.then c4
  exact ⟨(by omega), (hhu.step (by omega) O), (by omega), (by have h9 := o4; rw [show (2 * (j : Int)).toNat = 2 * j by omega, show (2 * (j : Int) + 1).toNat = 2 * j + 1 by omega] at h9; exact h9), sx_4, st_4, tab_4, CH_4⟩
 refine Cn (Qk (Qk (Qy (Qa (Qe ?_)))))
 obtain rfl : h = j := by omega
 have hy0 := hhu.all
 refine Qb (Wu O O (Oq (Qi call77 O (half_trG0 _ _ h _ us (prF (XF xs)) _ (row_2).sl (fun q hq => by omega) hy0 (by omega) st_2 ((tab_2).up (by omega)) (by omega))) O ?_))
 rintro _ w5 ⟨rT, AT, kT, ts, rfl, tz5, hts, us, yt5, c5⟩
 have htl := hts.len; have ytl5 := Ow.lt tz5
 have z5 := c5.size
 refine Wu O O (Om (Qu O O) O (Om (Qu O O) O (Ww O O (Ww O O (Wz ?_)))))
 refine Kb (Wu O O (Om (Cr υ28 O) O (Ka (Cc O (Qn ?_)))))
 refine Qa (Kb (Wu O O ?_))
 refine Om (Rn.castJ (show (h : Int) + 1 = ((h + 1 : Nat) : Int) by omega) (Cd O O)) O ?_
 refine Oq (Wn υ31 inf33w106 O O (by omega) (by omega) (by omega)) O ?_
 rintro _ w6 ⟨p6, rfl, o6, c6, e6, z6⟩
 refine Ww O O (Wz (Kb (Wu O O (Om (Cs υ31 O) O ?_))))
 refine Wu O O (Ka (Qt ?_))
 have tz_6 := tz5.keep c6
 have CH_6 := CH_2.and (c5.trans c6)
 refine Kf (σ := Nat × List CB) (fun (k, os) => [(4, Kg n), (5, Kg h), (8, .slice AT h kT), (10, .slice (Ki p6) (h + 1) (h + 1)), (75, Kg (h + 1 : Nat)), (76, Kg k)]) (fun (k, os) w' => k ≤ h + 1 ∧ HalfY (h + 1) k (fun _ => z0) (fH h (trM (oOf h) (prF (XF xs)))) os ∧ w6.heap.size ≤ w'.heap.size ∧ CR 33 w' rT AT h kT ts ∧ CR 33 w' ((p6 + 1)) (Ki p6) (h + 1) (h + 1) os ∧ Ch (No) w w') (fun (k, os) => h + 1 - k) (0, List.replicate (h + 1) (0, 0)) ?_ ?_
 · exact ⟨(by omega), (HalfY.rep _ _), (Nat.le_refl _), tz_6, o6, CH_6⟩
 rintro ⟨k, os⟩ w7 ⟨hk, ho, hsz7, tz_7, ou_7, CH_7⟩
 have em1 : (k : Int) % (h : Int) = ((k % h : Nat) : Int) := rfl
 have hm1 := Nat.mod_lt k (show 0 < h by omega)
 have em2 : k < h + 1 → ((h : Int) - (k : Int)) % (h : Int) = (((h - k) % h : Nat) : Int) := fun h9 => by rw [← Int.ofNat_sub (by omega)]; rfl
 have hm2 := Nat.mod_lt (h - k) (show 0 < h by omega)
 refine Kb (Om (Co O O) O (Wz (Qj O (fun hc6 => ?_) (fun hc6 => ?_))))
 ·
  refine Qn (Qa (Qe (Qt (Kb (Wu O O (Ww O O ?_))))))
  refine Wz (Kj 16 [0, 2, 4, 6, 8, 10, 12, 14, 16, 18, 20, 22, 24, 26, 29, 30] (No) ?_)
  intro w8 c8 z8
  have tz_8 := tz_7.keep c8
  have ou_8 := ou_7.keep c8
  refine Wv O O (Wv O O (Wv O O (Ws (Rq O O) O (Ws (Qs υ31 ς33 O O (tz_8.sl.ne (by omega))) O (Wt (fun hS => Qg ι33 O ((tz_8.keep hS).sl.getC (by omega) (by omega))) O (Wv O O (Wv O O ?_)))))))
  refine Wv O O ?_
  refine Ws (Rg O O) O ?_
  refine Wv O O (Ws (Rq O O) O (Ws (Qs υ31 ς33 O O (tz_8.sl.ne (by omega))) O (Wt (fun hS => Qg ι33 O ((tz_8.keep hS).sl.getC (by omega) (by omega))) O (Hq (Qi κ78 O (cplx_Conj _ _ _)) O ?_))))
  rintro _ w9 ⟨p9, q9, rfl, F9, c9⟩
  have z9 := c9.size
  have RD_9 := (Ch.refl (No) w8).and c9
  refine ⟨RD_9, ?_⟩
  refine Wx O O (Cj (Ww O O (Qf (Ca (Qa (Kb ?_))))))
  refine Wu O O (Wu O O (Oq (Wk.cbin (.inr O) O O) O ?_))
  rintro _ w10 ⟨p10, q10, rfl, F10, c10⟩
  have z10 := c10.size
  refine Oq (Qi κ80 O (cplx_MinusI _ _ _)) O ?_
  rintro _ w11 ⟨p11, q11, rfl, F11, c11⟩
  have z11 := c11.size
  refine Oq (Qi κ79 O (cplx_Times _ _ _ _)) O ?_
  rintro _ w12 ⟨p12, q12, rfl, F12, c12⟩
  have z12 := c12.size
  refine Ww O O (Wz ?_)
  have hq9 : (k : Int) % (n : Int) = (k : Int) := Int.emod_eq_of_lt (by omega) (by omega)
  refine Qb (Wu O O (Wu O O (Wu O O (Oq (Qi call14 O (roots_Twist _ _ n (k : Int) k (by omega) (by omega) ⟨by omega, by omega⟩ hq9 _)) O ?_))))
  rintro _ w13 ⟨x13, y13, rfl, F13, c13⟩
  have z13 := c13.size
  refine Wu O O (Om (Qu O O) O (Om (Qu O O) O (Ww O O (Ww O O (Wz ?_)))))
  refine Kb (Wu O O (Om (Cr υ28 O) O (Ka (Cc O (Qn ?_)))))
  refine Qa (Qb (Wu O O (Wu O O (Wu O O (Wu O O (Oq (Qi κ81 O (half_even _ _ _ _ _)) O ?_))))))
  rintro _ w14 ⟨p14, q14, rfl, F14, c14⟩
  have z14 := c14.size
  refine Wu O O (Oq (Wk.cbin (.inl O) O O) O ?_)
  rintro _ w15 ⟨p15, q15, rfl, F15, c15⟩
  have z15 := c15.size
  have ou_15 := ou_8.keep (c9.trans (c10.trans (c11.trans (c12.trans (c13.trans (c14.trans c15))))))
  refine Om (Qs υ31 ς33 O O (ou_15.sl.ne (by omega))) O (Oz (Rj ς33 O O (by omega) ou_15) O ?_)
  rintro _ w16 ⟨o16, c16, z16⟩
  have y16 := o16.lt
  refine Qf (Ql (Qa (Qb ?_)))
  refine Om (Cd O O) O ?_
  refine Wu O O (Qf ?_)
  refine Ke (k + 1, os.set k (p15, q15)) ?_
  have tz_15 := tz_8.keep (c9.trans (c10.trans (c11.trans (c12.trans (c13.trans (c14.trans c15))))))
  have tz_16 := tz_15.to c16
  have CH_15 := CH_7.and (c8.trans (c9.trans (c10.trans (c11.trans (c12.trans (c13.trans (c14.trans c15)))))))
  have CH_16 : Ch (No) w w16 := CH_15.then c16
  exact ⟨(by omega), (ho.step (by omega) (by rw [show cx (p15, q15) = fH h (trM (oOf h) (prF (XF xs))) k from fH_of (za := ts.getD ((k : Int) % (h : Int)).toNat (0, 0)) (zb := ts.getD (((h : Int) - (k : Int)) % (h : Int)).toNat (0, 0)) (by rw [em1, Int.toNat_natCast]; exact hts.get _ hm1) (by rw [em2 (by omega), Int.toNat_natCast]; exact hts.get _ hm2) F9 F10 F11 F12 F13 F14 F15 hn2])), (by omega), tz_16, o16, CH_16⟩
 refine Cn (Qk (Qk (Qy (Qa (Kb (Wu O O ?_))))))
 refine Ww O O (Ww O O (Ka (Qp (Ra O O O (Kx ?_)))))
 obtain rfl : k = h + 1 := by omega
 refine ⟨p6, os, ?_, ?_, ?_, by omega, CH_7⟩
 rw [hd2]
 rw [hd2]; exact ou_7
 rw [hd2]; exact ho.all.cast fun i _ => by unfold hF; rw [if_neg (by omega), hd2]
set_option maxHeartbeats 2000000 in
theorem half_Inv3 (SX : Nat → Prop) (X : Option Addr) (xc : Nat) (zs : List CB) (w : World) (sx : SlR SX w X 3 1 (zs.map cxV)) (hX : ∀ q, SX q → q < w.heap.size) (st : StT w) (tab : TabB w.heap.size w) (hG : 24 ≤ w.heap.size) :
  Calls prog 74 #[.slice X 3 xc] w (Ret (fun v w' => ∃ r A k os, v = .tuple #[.slice A 4 k, .nilIface] ∧ FR 32 w' r A 4 k os ∧ (∀ j, j < 2 → cx (os.getD (2 * j) 0, os.getD (2 * j + 1) 0) = ivF 2 (oOf 2) (iZ 2 (fun j => cx (zs.getD j (0, 0)))) j) ∧ UsG 2 ∧ w.heap.size < r ∧ Ch No w w')) := by
 refine Ku func74 O ntmps74 O (Kb (Ww O O (Ww O O (Wz ?_))))
 refine Qb (Wu O O (Om (Cs υ31 O) O ?_))
 refine Om (Rg O O) O ?_
 refine Ww O O (Wz (Kb (Wu O O (Om (Co O O) O ?_))))
 refine Wu O O ?_
 refine Cz (b := _) 3 20 23 O (fun hc1 Jhc1 => by
   refine Oy O (Oy O (Om (Qr O O) O ?_))
   exact (Qo O (Qo O Jhc1))) (fun hc1 Jhc1 => by
   try simp only [bX] at hc1
   refine Wu O O (Om (Rb O O) O (Om (Qm O O) O ?_))
   exact (Qo O (Qo O Jhc1))) ?_
 refine Ka (Cq O (fun hc2 => ?_) (fun hc2 => ?_))
 ·
  try simp only [bX] at hc2
  omega
 try simp only [bX] at hc2
 refine Qn (Qa (Qe (Kb (Wu O O (Om (Cg O O) O (Qf ?_))))))
 refine Qa (Qj O (fun hc3 => ?_) (fun hc3 => ?_))
 · omega
 refine Qn (Qa (Kb (Wu O O (Oq (Wn υ31 inf33w106 O O (by omega) (by omega) (by omega)) O ?_))))
 rintro _ w1 ⟨p1, rfl, o1, c1, e1, z1⟩
 refine Ww O O (Wz (Kb (Wu O O (Om (Cs υ31 O) O ?_))))
 refine Wu O O (Ka (Qt ?_))
 have sx_1 := sx.keep c1
 have st_1 := st.keep c1
 have tab_1 := tab.keep c1
 have CH_1 := c1
 refine Kf (σ := Nat × List CB) (fun (k, zz) => [(0, .slice X 3 xc), (4, Kg 2), (5, .slice (Ki p1) 2 2), (35, Kg 2), (36, Kg k)]) (fun (k, zz) w' => k ≤ 2 ∧ HalfY 2 k (fun _ => z0) (iZ 2 (fun j => cx (zs.getD j (0, 0)))) zz ∧ w1.heap.size ≤ w'.heap.size ∧ CR 33 w' ((p1 + 1)) (Ki p1) 2 2 zz ∧ SlR SX w' X 3 1 (zs.map cxV) ∧ StT w' ∧ TabB w.heap.size w' ∧ Ch (No) w w') (fun (k, zz) => 2 - k) (0, List.replicate 2 (0, 0)) ?_ ?_
 · exact ⟨(by omega), (HalfY.rep _ _), (Nat.le_refl _), o1, sx_1, st_1, tab_1, CH_1⟩
 rintro ⟨k, zz⟩ w2 ⟨hk, ho, hsz2, row_2, sx_2, st_2, tab_2, CH_2⟩
 have e1 : ((k : Int)).toNat = k := by omega
 have e2 : k ≤ 2 → (2 - (k : Int)).toNat = 2 - k := fun _ => by omega
 refine Kb (Om (Co O O) O (Wz (Qj O (fun hc4 => ?_) (fun hc4 => ?_))))
 ·
  refine Qn (Qa (Qe (Qt (Kb (Wu O O (Ww O O ?_))))))
  refine Wz (Kj 12 [0, 2, 4, 6, 8, 10, 12, 14, 16, 18, 21, 22] (No) ?_)
  intro w3 c3 z3
  have sx_3 := sx_2.keep c3
  have row_3 := row_2.keep c3
  refine Wv O O (Wv O O (Wt (fun hS => Qs υ31 ς33 O O ((sx_3.keep hS).ne (by omega))) O (Wt (fun hS => Qg ι33 O ((sx_3.keep hS).getC (by omega) (by omega))) O (Wv O O (Wv O O (Wv O O ?_))))))
  refine Ws (Rg O O) O ?_
  refine Wt (fun hS => Qs υ31 ς33 O O ((sx_3.keep hS).ne (by omega))) O (Wt (fun hS => Qg ι33 O ((sx_3.keep hS).getC (by omega) (by omega))) O (Hq (Qi κ78 O (cplx_Conj _ _ _)) O ?_))
  rintro _ w4 ⟨p4, q4, rfl, F4, c4⟩
  have z4 := c4.size
  have RD_4 := (Ch.refl (No) w3).and c4
  refine ⟨RD_4, ?_⟩
  refine Wx O O (Cj (Ww O O (Qf (Ca (Qa (Kb ?_))))))
  refine Wu O O (Wu O O (Oq (Qi call121 O (half_odd _ _ _ _ _)) O ?_))
  rintro _ w5 ⟨p5, q5, rfl, F5, c5⟩
  have z5 := c5.size
  refine Wu O O ?_
  refine Om (Cy O O) O ?_
  refine Wu O O ?_
  refine Om (Rn.neg O (by rw [IntKind.wrap_i64]; omega)) O ?_
  refine Oq (Qi call14 O (roots_Twist _ _ 4 (-(k : Int)) ((4 - k) % 4) (by omega) (by omega) ⟨by omega, by omega⟩ (by omega) _)) O ?_
  rintro _ w6 ⟨x6, y6, rfl, F6, c6⟩
  have z6 := c6.size
  refine Wu O O (Om (Qu O O) O (Om (Qu O O) O (Ww O O (Ww O O (Wz ?_)))))
  refine Kb (Wu O O (Om (Cr υ28 O) O (Ka (Cc O (Qn ?_)))))
  refine Qa (Qb (Wu O O (Wu O O (Wu O O (Wu O O (Oq (Qi κ81 O (half_even _ _ _ _ _)) O ?_))))))
  rintro _ w7 ⟨p7, q7, rfl, F7, c7⟩
  have z7 := c7.size
  refine Wu O O (Oq (Qi κ122 O (cplx_TimesI _ _ _)) O ?_)
  rintro _ w8 ⟨p8, q8, rfl, F8, c8⟩
  have z8 := c8.size
  refine Oq (Wk.cbin (.inl O) O O) O ?_
  rintro _ w9 ⟨p9, q9, rfl, F9, c9⟩
  have z9 := c9.size
  have row_9 := row_3.keep (c4.trans (c5.trans (c6.trans (c7.trans (c8.trans c9)))))
  refine Om (Qs υ31 ς33 O O (row_9.sl.ne (by omega))) O (Oz (Rj ς33 O O (by omega) row_9) O ?_)
  rintro _ w10 ⟨o10, c10, z10⟩
  have y10 := o10.lt
  refine Qf (Ql (Qa (Qb ?_)))
  refine Om (Cd O O) O ?_
  refine Wu O O (Qf ?_)
  refine Ke (k + 1, zz.set k (p9, q9)) ?_
  have sx_9 := sx_3.keep (c4.trans (c5.trans (c6.trans (c7.trans (c8.trans c9)))))
  have sx_10 := sx_9.to c10 (Xd hX)
  have st_9 := st_2.keep (c3.trans (c4.trans (c5.trans (c6.trans (c7.trans (c8.trans c9))))))
  have st_10 := st_9.to c10
  have tab_9 := tab_2.keep (c3.trans (c4.trans (c5.trans (c6.trans (c7.trans (c8.trans c9))))))
  have tab_10 := tab_9.to c10
  have CH_9 := CH_2.and (c3.trans (c4.trans (c5.trans (c6.trans (c7.trans (c8.trans c9))))))
  have CH_10 : Ch (No) w w10 := CH_9.then c10
  exact ⟨(by omega), (ho.step (by omega) (by rw [show cx (p9, q9) = iZ 2 (fun j => cx (zs.getD j (0, 0))) k from (iZ_of (za := zs.getD (k : Int).toNat (0, 0)) (zb := zs.getD (2 - (k : Int)).toNat (0, 0)) (by rw [e1]) (by rw [e2 (by omega)]) F4 F5 F6 F7 F8 F9 O O)])), (by omega), o10, sx_10, st_10, tab_10, CH_10⟩
 refine Cn (Qk (Qk (Qy (Qa (Qe ?_)))))
 obtain rfl : k = 2 := by omega
 have hy0 := ho.all
 refine Qb (Wu O O (Oq (Qi call77 O (half_trG1 _ _ 2 _ zz (iZ 2 (fun j => cx (zs.getD j (0, 0)))) _ (row_2).sl (fun q hq => by omega) hy0 (by omega) st_2 ((tab_2).up (by omega)) (by omega))) O ?_))
 rintro _ w11 ⟨rT, AT, kT, ts, rfl, tz11, hts, us, yt11, c11⟩
 have htl := hts.len; have ytl11 := Ow.lt tz11
 have z11 := c11.size
 refine Wu O O (Om (Qu O O) O (Om (Qu O O) O (Ww O O (Ww O O (Wz ?_)))))
 refine Kb (Wu O O (Om (Cr υ28 O) O (Ka (Cc O (Qn ?_)))))
 refine Qa (Kb (Wu O O ?_))
 refine Om (Cy O O) O ?_
 refine Oq (Wk.mkF0 υ24 inf32w106 O O) O ?_
 rintro _ w12 ⟨p12, rfl, o12, c12, e12, z12⟩
 have z12 := c12.size
 refine Ww O O (Wz (Kb (Wu O O (Om (Cs υ31 O) O ?_))))
 refine Wu O O (Ka (Qt ?_))
 have tz_12 := tz11.keep c12
 have CH_12 := CH_2.and (c11.trans c12)
 refine Kf (σ := Nat × List Nat × Nat × Option Addr × Nat) (fun (j, os, r2, A2, c2) => [(12, .slice A2 (2 * j) c2), (85, .slice AT 2 kT), (86, Kg 2), (87, Kg j)]) (fun (j, os, r2, A2, c2) w' => j ≤ 2 ∧ os.length = 2 * j ∧ (∀ i, i < j → cx (os.getD (2 * i) 0, os.getD (2 * i + 1) 0) = ivF 2 (oOf 2) (iZ 2 (fun j => cx (zs.getD j (0, 0)))) i) ∧ w.heap.size < r2 ∧ rT < r2 ∧ w12.heap.size ≤ w'.heap.size ∧ FR 32 w' r2 A2 (2 * j) c2 os ∧ CR 33 w' rT AT 2 kT ts ∧ Ch (No) w w') (fun (j, os, r2, A2, c2) => 2 - j) (0, [], (p12 + 1), (Ki p12), 4) ?_ ?_
 · exact ⟨(by omega), O, (fun i h => absurd h (by omega)), (by omega), (by omega), (Nat.le_refl _), o12, tz_12, CH_12⟩
 rintro ⟨j, os, r2, A2, c2⟩ w13 ⟨hj, hol, ho, hr2, hr3, hsz13, rof_13, tz_13, CH_13⟩
 refine Kb (Om (Co O O) O (Wz (Qj O (fun hc5 => ?_) (fun hc5 => ?_))))
 ·
  refine Qn (Qa (Qe (Qt (Kb (Om (Qs υ31 ς33 O O (tz_13.sl.ne (by omega))) O (Om (Qg ι33 O (tz_13.sl.getC (by omega) (by omega))) O ?_))))))
  refine Ww O O (Ka (Qb (Wu O O (Wu O O (Om (Rh O) O (Wu O O ?_))))))
  refine Om (Ri O) O (Kq 1 2 (Kl υ24 inf32w106 O O) O ?_)
  intro p14 w14 l96 l96o c14 e14 z14
  have rof_14 := rof_13.keep c14
  refine Oq (Cm (S := _) υ24 inf32w106 O (by decide) O O rof_14 l96 (by rfl) (fun h => by simp at h) (by omega) (by simp only [maxLen]; omega)) O ?_
  rintro _ w15 ⟨r15, A15, k15, rfl, o15, c15, q15⟩
  have z15 := c15.size
  have y15 := o15.lt
  refine Ww O O (Qf (Ql (Qa (Qb ?_))))
  refine Om (Cd O O) O ?_
  refine Wu O O (Qf ?_)
  refine Ke (j + 1, os ++ [(ts.getD (j : Int).toNat (0, 0)).1, (ts.getD (j : Int).toNat (0, 0)).2], r15, A15, k15) ?_
  have tz_14 := tz_13.keep c14
  have tz_15 := tz_14.to c15
  have CH_14 := CH_13.and c14
  have CH_15 : Ch (No) w w15 := CH_14.then c15
  exact ⟨(by omega), (by simp [hol]; omega), (two_snoc ho hol (hts.get j (by omega))), (by omega), (by omega), (by omega), (by have h9 := o15; show Ow _ _ _ _ _ _ _ _; rw [List.map_append]; exact h9), tz_15, CH_15⟩
 refine Cn (Qk (Qk (Qy (Qa (Kb (Wu O O ?_))))))
 refine Ww O O (Ww O O (Ka (Qp (Ra O O O (Kx ?_)))))
 obtain rfl : j = 2 := by omega
 exact ⟨_, _, _, os, O, rof_13, ho, us, hr2, CH_13⟩
set_option maxHeartbeats 2000000 in
theorem half_TwoG (SX : Nat → Prop) (X Y : Option Addr) (n xc yc : Nat) (xs ys : List Nat) (w : World) (sx : SlR SX w X n 1 (xs.map flV)) (sy : SlR SX w Y n 1 (ys.map flV)) (hX : ∀ q, SX q → q < w.heap.size) (hn : 1 ≤ n ∧ n ≤ 4096) (st : StT w) (tab : TabB w.heap.size w) (hG : 24 ≤ w.heap.size) :
  Calls prog 41 #[.slice X n xc, .slice Y n yc] w (Ret (fun v w' => ∃ q1 q2 zs1 zs2, v = .tuple #[.slice (Ki q1) n n, .slice (Ki q2) n n, .nilIface] ∧ CR 33 w' (q1 + 1) (Ki q1) n n zs1 ∧ CR 33 w' (q2 + 1) (Ki q2) n n zs2 ∧ LY n (tw1 n (trM (oOf n) (xyF (XF xs) (XF ys)))) zs1 ∧ LY n (tw2 n (trM (oOf n) (xyF (XF xs) (XF ys)))) zs2 ∧ w.heap.size ≤ q1 ∧ w.heap.size ≤ q2 ∧ Ch No w w')) := by
 have hn1 := hn.1
 refine Ku func41 O ntmps41 O (Kb (Ww O O (Ww O O (Ww O O (Ka ?_)))))
 refine Kb (Wu O O (Om (Cs υ24 O) O (Ww O O (Wz ?_))))
 refine Kb (Wu O O (Om (Cg O O) O (Wu O O ?_)))
 refine Cz (b := _) 3 21 24 O (fun hc1 Jhc1 => by
   refine Oy O (Oy O (Om (Qr O O) O ?_))
   exact (Qo O (Qo O Jhc1))) (fun hc1 Jhc1 => by
   try simp only [bX] at hc1
   refine Wu O O (Om (Rb O O) O (Om (Qm O O) O ?_))
   exact (Qo O (Qo O Jhc1))) ?_
 refine Wu O O ?_
 refine Cz (b := _) 5 25 30 O (fun hc2 Jhc2 => by
   refine Oy O (Oy O (Oy O (Oy O (Om (Qr O O) O ?_))))
   exact (Qo O (Qo O (Qo O (Qo O Jhc2))))) (fun hc2 Jhc2 => by
   try simp only [bX] at hc2
   refine Wu O O (Om (Cs υ24 O) O (Wu O O (Om (Wd O O) O (Om (Qm O O) O ?_))))
   exact (Qo O (Qo O (Qo O (Qo O Jhc2))))) ?_
 refine Ka (Cq O (fun hc3 => ?_) (fun hc3 => ?_))
 ·
  try simp only [bX] at hc3
  omega
 try simp only [bX] at hc3
 refine Qn (Qa (Kb (Wu O O (Oq (Wn υ31 inf33w106 O O (by omega) (by omega) (by omega)) O ?_))))
 rintro _ w1 ⟨p1, rfl, o1, c1, e1, z1⟩
 refine Ww O O (Wz (Kb (Wu O O (Om (Cs υ31 O) O ?_))))
 refine Wu O O (Ka (Qt ?_))
 have sx_1 := sx.keep c1
 have sy_1 := sy.keep c1
 have st_1 := st.keep c1
 have tab_1 := tab.keep c1
 have CH_1 := c1
 refine Kf (σ := Nat × List CB) (fun (j, us) => [(0, .slice X n xc), (1, .slice Y n yc), (7, Kg n), (8, .slice (Ki p1) n n), (35, Kg n), (36, Kg j)]) (fun (j, us) w' => j ≤ n ∧ HalfY n j (fun _ => z0) (xyF (XF xs) (XF ys)) us ∧ w1.heap.size ≤ w'.heap.size ∧ CR 33 w' ((p1 + 1)) (Ki p1) n n us ∧ SlR SX w' X n 1 (xs.map flV) ∧ SlR SX w' Y n 1 (ys.map flV) ∧ StT w' ∧ TabB w.heap.size w' ∧ Ch (No) w w') (fun (j, us) => n - j) (0, List.replicate n (0, 0)) ?_ ?_
 · exact ⟨(by omega), (HalfY.rep _ _), (Nat.le_refl _), o1, sx_1, sy_1, st_1, tab_1, CH_1⟩
 rintro ⟨j, us⟩ w2 ⟨hj, hhu, hsz2, row_2, sx_2, sy_2, st_2, tab_2, CH_2⟩
 refine Kb (Om (Co O O) O (Wz (Qj O (fun hc4 => ?_) (fun hc4 => ?_))))
 ·
  refine Qn (Qa (Qe (Qt (Kb (Wu O O (Ww O O ?_))))))
  refine Ka (Kj 12 [0, 2, 4, 6, 8, 10, 12, 14, 16, 18, 20, 22] (At (p1 + 1)) ?_)
  intro w3 c3 z3
  have sx_3 := sx_2.keep c3
  have sy_3 := sy_2.keep c3
  have row_3 := row_2.keep c3
  refine Wv O O (Wv O O (Wv O O (Wv O O ?_)))
  refine Wt (fun hS => Qs υ24 ς32 O O ((sx_3.to hS (Xd hX)).ne (by omega))) O ?_
  refine Wt (fun hS => Qg ι32 O ((sx_3.to hS (Xd hX)).getF (by omega))) O ?_
  refine Wv O O (Wv O O ?_)
  refine Wt (fun hS => Qs υ24 ς32 O O ((sy_3.to hS (Xd hX)).ne (by omega))) O ?_
  refine Wt (fun hS => Qg ι32 O ((sy_3.to hS (Xd hX)).getF (by omega))) O ?_
  refine Ws (Rf O O) O (Ws (Qs υ31 ς33 O O (row_3.sl.ne (by omega))) O (Cj (Oz (Rj ς33 O O (by omega) row_3) O ?_)))
  rintro _ w4 ⟨o4, c4, z4⟩
  have y4 := o4.lt
  refine Qf (Ca (Ql (Qa (Qb ?_))))
  refine Om (Cd O O) O ?_
  refine Wu O O (Qf ?_)
  refine Ke (j + 1, us.set j (xs.getD j 0, ys.getD j 0)) ?_
  have sx_4 := sx_3.to c4 (Xd hX)
  have sy_4 := sy_3.to c4 (Xd hX)
  have st_3 := st_2.keep c3
  have st_4 := st_3.to c4
  have tab_3 := tab_2.keep c3
  have tab_4 := tab_3.to c4
  have CH_3 := CH_2.and c3
  have CH_4 : Ch (No) w w4 := CH_3.then c4
  exact ⟨(by omega), (hhu.step (by omega) O), (by omega), o4, sx_4, sy_4, st_4, tab_4, CH_4⟩
 refine Cn (Qk (Qk (Qy (Qa (Qe ?_)))))
 obtain rfl : n = j := by omega
 have hy0 := hhu.all
 refine Qb (Wu O O (Oq (Qi call77 O (half_trG0 _ _ n _ us (xyF (XF xs) (XF ys)) _ (row_2).sl (fun q hq => by omega) hy0 (by omega) st_2 ((tab_2).up (by omega)) (by omega))) O ?_))
 rintro _ w5 ⟨rT, AT, kT, ts, rfl, tz5, hts, us, yt5, c5⟩
 have htl := hts.len; have ytl5 := Ow.lt tz5
 have z5 := c5.size
 refine Wu O O (Om (Qu O O) O (Om (Qu O O) O (Ww O O (Ww O O (Wz ?_)))))
 refine Kb (Wu O O (Om (Cr υ28 O) O (Ka (Cc O (Qn ?_)))))
 refine Qa (Qe (Wj 5 (.mv 0 (.mv 2 (.two 1 (.mv 4 (.wk 3 .nil)) 3 (.wk 1 (.mv 4 .nil))))) (fun w1 w' => Ch (No) w1 w') mixed (by kernel_rfl) (fun _ _ => Ch.refl _ _) ?_))
 intro w6 D6
 have c6 := Ch.of_drew D6; have z6 := c6.size
 refine Rc (fun w' hS => Qc O) O O O O (Rc (fun w' hS => Qc O) O O O O (Wl ?_ ?_))
 ·
  refine Rs (Wn υ31 inf33w106 O O (by omega) (by omega) (by omega)) O O O O ?_
  rintro _ w7 ⟨p7, rfl, o7, c7, e7, z7⟩
  have RD_7 := (Ch.refl (No) w6).and c7
  refine ⟨RD_7, ?_⟩
  refine Rc (fun w' hS => Qd O) O O O O (Rs (Wn υ31 inf33w106 O O (by omega) (by omega) (by omega)) O O O O ?_)
  rintro _ w8 ⟨p8, rfl, o8, c8, e8, z8⟩
  have RD_8 := RD_7.and c8
  refine ⟨RD_8, ?_⟩
  refine Rr (Ww O O (Qf (Ca (Qa (Qe (Kb ?_))))))
  refine Wu O O (Om (Cs υ31 O) O (Wu O O (Ka (Qt ?_))))
  have tz_8 := tz5.keep (c6.trans (c7.trans c8))
  have o1_8 := o7.keep c8
  have CH_8 := CH_2.and (c5.trans (c6.trans (c7.trans c8)))
  refine Kf (σ := Nat × List CB × List CB) (fun (k, a1, a2) => [(7, Kg n), (10, .slice AT n kT), (12, .slice (Ki p7) n n), (13, .slice (Ki p8) n n), (65, Kg n), (66, Kg k)]) (fun (k, a1, a2) w' => k ≤ n ∧ HalfY n k (fun _ => z0) (tw1 n (trM (oOf n) (xyF (XF xs) (XF ys)))) a1 ∧ HalfY n k (fun _ => z0) (tw2 n (trM (oOf n) (xyF (XF xs) (XF ys)))) a2 ∧ w8.heap.size ≤ w'.heap.size ∧ CR 33 w' rT AT n kT ts ∧ CR 33 w' ((p7 + 1)) (Ki p7) n n a1 ∧ CR 33 w' ((p8 + 1)) (Ki p8) n n a2 ∧ Ch (No) w w') (fun (k, a1, a2) => n - k) (0, List.replicate n (0, 0), List.replicate n (0, 0)) ?_ ?_
  · exact ⟨(by omega), (HalfY.rep _ _), (HalfY.rep _ _), (Nat.le_refl _), tz_8, o1_8, o8, CH_8⟩
  rintro ⟨k, a1, a2⟩ w9 ⟨hk, h1, h2, hsz9, tz_9, o1_9, o2_9, CH_9⟩
  have em2 : k < n → ((n : Int) - (k : Int)) % (n : Int) = (((n - k) % n : Nat) : Int) := fun h9 => by rw [← Int.ofNat_sub (by omega)]; rfl
  have hm2 := Nat.mod_lt (n - k) (show 0 < n by omega)
  refine Kb (Om (Co O O) O (Wz (Qj O (fun hc5 => ?_) (fun hc5 => ?_))))
  ·
   refine Qn (Qa (Qe (Qt (Kb (Wu O O (Ww O O ?_))))))
   refine Wz (Kj 14 [0, 2, 4, 6, 8, 10, 12, 14, 16, 18, 20, 22, 25, 26] (No) ?_)
   intro w10 c10 z10
   have tz_10 := tz_9.keep c10
   have o1_10 := o1_9.keep c10
   have o2_10 := o2_9.keep c10
   refine Wv O O (Wv O O (Ws (Qs υ31 ς33 O O (tz_10.sl.ne (by omega))) O (Wt (fun hS => Qg ι33 O ((tz_10.keep hS).sl.getC (by omega) (by omega))) O (Wv O O (Wv O O (Wv O O ?_))))))
   refine Ws (Rg O O) O ?_
   refine Wv O O (Ws (Rq O O) O (Ws (Qs υ31 ς33 O O (tz_10.sl.ne (by omega))) O (Wt (fun hS => Qg ι33 O ((tz_10.keep hS).sl.getC (by omega) (by omega))) O (Hq (Qi κ78 O (cplx_Conj _ _ _)) O ?_))))
   rintro _ w11 ⟨p11, q11, rfl, F11, c11⟩
   have z11 := c11.size
   have RD_11 := (Ch.refl (No) w10).and c11
   refine ⟨RD_11, ?_⟩
   refine Wx O O (Cj (Ww O O (Qf (Ca (Qa (Kb ?_))))))
   refine Wu O O (Wu O O (Wu O O (Wu O O (Oq (Qi κ81 O (half_even _ _ _ _ _)) O ?_))))
   rintro _ w12 ⟨p12, q12, rfl, F12, c12⟩
   have z12 := c12.size
   have o1_12 := o1_10.keep (c11.trans c12)
   refine Om (Qs υ31 ς33 O O (o1_12.sl.ne (by omega))) O (Oz (Rj ς33 O O (by omega) o1_12) O ?_)
   rintro _ w13 ⟨o13, c13, z13⟩
   have y13 := o13.lt
   refine Ka (Qb (Wu O O (Wu O O (Wu O O (Wu O O (Oq (Wk.cbin (.inr O) O O) O ?_))))))
   rintro _ w14 ⟨p14, q14, rfl, F14, c14⟩
   have z14 := c14.size
   refine Oq (Qi κ80 O (cplx_MinusI _ _ _)) O ?_
   rintro _ w15 ⟨p15, q15, rfl, F15, c15⟩
   have z15 := c15.size
   refine Oq (Qi κ79 O (cplx_Times _ _ _ _)) O ?_
   rintro _ w16 ⟨p16, q16, rfl, F16, c16⟩
   have z16 := c16.size
   have o2_12 := o2_10.keep (c11.trans c12)
   have o2_13 := o2_12.to c13
   have o2_16 := o2_13.keep (c14.trans (c15.trans c16))
   refine Om (Qs υ31 ς33 O O (o2_16.sl.ne (by omega))) O (Oz (Rj ς33 O O (by omega) o2_16) O ?_)
   rintro _ w17 ⟨o17, c17, z17⟩
   have y17 := o17.lt
   refine Qf (Ql (Qa (Qb ?_)))
   refine Om (Cd O O) O ?_
   refine Wu O O (Qf ?_)
   refine Ke (k + 1, a1.set k (p12, q12), a2.set k (p16, q16)) ?_
   have tz_12 := tz_10.keep (c11.trans c12)
   have tz_13 := tz_12.to c13
   have tz_16 := tz_13.keep (c14.trans (c15.trans c16))
   have tz_17 := tz_16.to c17
   have o1_16 := o13.keep (c14.trans (c15.trans c16))
   have o1_17 := o1_16.to c17
   have CH_12 := CH_9.and (c10.trans (c11.trans c12))
   have CH_13 : Ch (No) w w13 := CH_12.then c13
   have CH_16 := CH_13.and (c14.trans (c15.trans c16))
   have CH_17 : Ch (No) w w17 := CH_16.then c17
   exact ⟨(by omega), (h1.step (by omega) (by rw [F12, F11, Int.toNat_natCast, em2 (by omega), Int.toNat_natCast, hts.get _ hm2, hts.get k (by omega)]; rfl)), (h2.step (by omega) (md_of (hts.get k (by omega)) (by rw [em2 (by omega), Int.toNat_natCast]; exact hts.get _ hm2) F11 F14 F15 F16)), (by omega), tz_17, o1_17, o17, CH_17⟩
  refine Cn (Qk (Qk (Qy (Qa (Kb (Wu O O ?_))))))
  refine Wu O O (Ww O O (Ww O O (Ww O O (Ka (Qp (VQ.ret3 O O O O ?_))))))
  refine Kx ?_
  obtain rfl : n = k := by omega
  exact ⟨_, _, a1, a2, O, o1_9, o2_9, h1.all, h2.all, by omega, by omega, CH_9⟩
 refine Rs (Wn υ31 inf33w106 O O (by omega) (by omega) (by omega)) O O O O ?_
 rintro _ w18 ⟨p18, rfl, o18, c18, e18, z18⟩
 have RD_18 := (Ch.refl (No) w6).and c18
 refine ⟨RD_18, ?_⟩
 refine Rs (Wn υ31 inf33w106 O O (by omega) (by omega) (by omega)) O O O O ?_
 rintro _ w19 ⟨p19, rfl, o19, c19, e19, z19⟩
 have RD_19 := RD_18.and c19
 refine ⟨RD_19, ?_⟩
 refine Rc (fun w' hS => Qd O) O O O O (Rr (Ww O O (Qf (Ca (Qa (Qe (Qe ?_)))))))
 refine Qb (Wu O O (Om (Cs υ31 O) O (Wu O O (Ka (Qt ?_)))))
 have tz_19 := tz5.keep (c6.trans (c18.trans c19))
 have o2_19 := o18.keep c19
 have CH_19 := CH_2.and (c5.trans (c6.trans (c18.trans c19)))
 refine Kf (σ := Nat × List CB × List CB) (fun (k, a1, a2) => [(7, Kg n), (10, .slice AT n kT), (12, .slice (Ki p19) n n), (13, .slice (Ki p18) n n), (65, Kg n), (66, Kg k)]) (fun (k, a1, a2) w' => k ≤ n ∧ HalfY n k (fun _ => z0) (tw1 n (trM (oOf n) (xyF (XF xs) (XF ys)))) a1 ∧ HalfY n k (fun _ => z0) (tw2 n (trM (oOf n) (xyF (XF xs) (XF ys)))) a2 ∧ w19.heap.size ≤ w'.heap.size ∧ CR 33 w' rT AT n kT ts ∧ CR 33 w' ((p19 + 1)) (Ki p19) n n a1 ∧ CR 33 w' ((p18 + 1)) (Ki p18) n n a2 ∧ Ch (No) w w') (fun (k, a1, a2) => n - k) (0, List.replicate n (0, 0), List.replicate n (0, 0)) ?_ ?_
 · exact ⟨(by omega), (HalfY.rep _ _), (HalfY.rep _ _), (Nat.le_refl _), tz_19, o19, o2_19, CH_19⟩
 rintro ⟨k, a1, a2⟩ w20 ⟨hk, h1, h2, hsz20, tz_20, o1_20, o2_20, CH_20⟩
 have em2 : k < n → ((n : Int) - (k : Int)) % (n : Int) = (((n - k) % n : Nat) : Int) := fun h9 => by rw [← Int.ofNat_sub (by omega)]; rfl
 have hm2 := Nat.mod_lt (n - k) (show 0 < n by omega)
 refine Kb (Om (Co O O) O (Wz (Qj O (fun hc6 => ?_) (fun hc6 => ?_))))
 ·
  refine Qn (Qa (Qe (Qt (Kb (Wu O O (Ww O O ?_))))))
  refine Wz (Kj 14 [0, 2, 4, 6, 8, 10, 12, 14, 16, 18, 20, 22, 25, 26] (No) ?_)
  intro w21 c21 z21
  have tz_21 := tz_20.keep c21
  have o2_21 := o2_20.keep c21
  have o1_21 := o1_20.keep c21
  refine Wv O O (Wv O O (Ws (Qs υ31 ς33 O O (tz_21.sl.ne (by omega))) O (Wt (fun hS => Qg ι33 O ((tz_21.keep hS).sl.getC (by omega) (by omega))) O (Wv O O (Wv O O (Wv O O ?_))))))
  refine Ws (Rg O O) O ?_
  refine Wv O O (Ws (Rq O O) O (Ws (Qs υ31 ς33 O O (tz_21.sl.ne (by omega))) O (Wt (fun hS => Qg ι33 O ((tz_21.keep hS).sl.getC (by omega) (by omega))) O (Hq (Qi κ78 O (cplx_Conj _ _ _)) O ?_))))
  rintro _ w22 ⟨p22, q22, rfl, F22, c22⟩
  have z22 := c22.size
  have RD_22 := (Ch.refl (No) w21).and c22
  refine ⟨RD_22, ?_⟩
  refine Wx O O (Cj (Ww O O (Qf (Ca (Qa (Kb ?_))))))
  refine Wu O O (Wu O O (Wu O O (Wu O O (Oq (Qi κ81 O (half_even _ _ _ _ _)) O ?_))))
  rintro _ w23 ⟨p23, q23, rfl, F23, c23⟩
  have z23 := c23.size
  have o1_23 := o1_21.keep (c22.trans c23)
  refine Om (Qs υ31 ς33 O O (o1_23.sl.ne (by omega))) O (Oz (Rj ς33 O O (by omega) o1_23) O ?_)
  rintro _ w24 ⟨o24, c24, z24⟩
  have y24 := o24.lt
  refine Ka (Qb (Wu O O (Wu O O (Wu O O (Wu O O (Oq (Wk.cbin (.inr O) O O) O ?_))))))
  rintro _ w25 ⟨p25, q25, rfl, F25, c25⟩
  have z25 := c25.size
  refine Oq (Qi κ80 O (cplx_MinusI _ _ _)) O ?_
  rintro _ w26 ⟨p26, q26, rfl, F26, c26⟩
  have z26 := c26.size
  refine Oq (Qi κ79 O (cplx_Times _ _ _ _)) O ?_
  rintro _ w27 ⟨p27, q27, rfl, F27, c27⟩
  have z27 := c27.size
  have o2_23 := o2_21.keep (c22.trans c23)
  have o2_24 := o2_23.to c24
  have o2_27 := o2_24.keep (c25.trans (c26.trans c27))
  refine Om (Qs υ31 ς33 O O (o2_27.sl.ne (by omega))) O (Oz (Rj ς33 O O (by omega) o2_27) O ?_)
  rintro _ w28 ⟨o28, c28, z28⟩
  have y28 := o28.lt
  refine Qf (Ql (Qa (Qb ?_)))
  refine Om (Cd O O) O ?_
  refine Wu O O (Qf ?_)
  refine Ke (k + 1, a1.set k (p23, q23), a2.set k (p27, q27)) ?_
  have tz_23 := tz_21.keep (c22.trans c23)
  have tz_24 := tz_23.to c24
  have tz_27 := tz_24.keep (c25.trans (c26.trans c27))
  have tz_28 := tz_27.to c28
  have o1_27 := o24.keep (c25.trans (c26.trans c27))
  have o1_28 := o1_27.to c28
  have CH_23 := CH_20.and (c21.trans (c22.trans c23))
  have CH_24 : Ch (No) w w24 := CH_23.then c24
  have CH_27 := CH_24.and (c25.trans (c26.trans c27))
  have CH_28 : Ch (No) w w28 := CH_27.then c28
  exact ⟨(by omega), (h1.step (by omega) (by rw [F23, F22, Int.toNat_natCast, em2 (by omega), Int.toNat_natCast, hts.get _ hm2, hts.get k (by omega)]; rfl)), (h2.step (by omega) (md_of (hts.get k (by omega)) (by rw [em2 (by omega), Int.toNat_natCast]; exact hts.get _ hm2) F22 F25 F26 F27)), (by omega), tz_28, o1_28, o28, CH_28⟩
 refine Cn (Qk (Qk (Qy (Qa (Kb (Wu O O ?_))))))
 refine Wu O O (Ww O O (Ww O O (Ww O O (Ka (Qp (VQ.ret3 O O O O ?_))))))
 refine Kx ?_
 obtain rfl : n = k := by omega
 exact ⟨_, _, a1, a2, O, o1_20, o2_20, h1.all, h2.all, by omega, by omega, CH_20⟩
theorem ref22_plus (a b c d : Nat) (w : World) :
  Calls prog 85 #[.complex .f64 a b, .complex .f64 c d] w (Ret (fun v w' => ∃ p q, v = .complex .f64 p q ∧ cx (p, q) = plusC (cx (a, b)) (cx (c, d)) ∧ Ch No w w')) := by
 refine Ku func85 O ntmps85 O (Kb (Ww O O (Wy ?_)))
 refine Wu O O (Om (Rh O) O (Wu O O (Om (Rh O) O (Oq (Cw (.inl O) O O) O ?_))))
 rintro _ w1 ⟨r1, rfl, f1, c1⟩
 have z1 := c1.size
 refine Wu O O (Om (Ri O) O (Wu O O (Om (Ri O) O (Oq (Cw (.inl O) O O) O ?_))))
 rintro _ w2 ⟨r2, rfl, f2, c2⟩
 have z2 := c2.size
 refine Om (Rf O O) O (Ww O O (Ka (Qp (Qx O O (Kx ?_)))))
 have CH_2 := (c1.trans c2)
 exact ⟨_, _, O, (by show (cn _, cn _) = _; rw [f1, f2]; rfl), CH_2⟩
theorem ref22_less (a b c d : Nat) (w : World) :
  Calls prog 87 #[.complex .f64 a b, .complex .f64 c d] w (Ret (fun v w' => ∃ p q, v = .complex .f64 p q ∧ cx (p, q) = lessC (cx (a, b)) (cx (c, d)) ∧ Ch No w w')) := by
 refine Ku func87 O ntmps87 O (Kb (Ww O O (Wy ?_)))
 refine Wu O O (Om (Rh O) O (Wu O O (Om (Rh O) O (Oq (Cw (.inr (.inl O)) O O) O ?_))))
 rintro _ w1 ⟨r1, rfl, f1, c1⟩
 have z1 := c1.size
 refine Wu O O (Om (Ri O) O (Wu O O (Om (Ri O) O (Oq (Cw (.inr (.inl O)) O O) O ?_))))
 rintro _ w2 ⟨r2, rfl, f2, c2⟩
 have z2 := c2.size
 refine Om (Rf O O) O (Ww O O (Ka (Qp (Qx O O (Kx ?_)))))
 have CH_2 := (c1.trans c2)
 exact ⟨_, _, O, (by show (cn _, cn _) = _; rw [f1, f2]; rfl), CH_2⟩
theorem ref22_half (a b : Nat) (w : World) :
  Calls prog 84 #[.complex .f64 a b] w (Ret (fun v w' => ∃ p q, v = .complex .f64 p q ∧ cx (p, q) = timesF (cx (a, b)) halv ∧ Ch No w w')) := by
 refine Ku func84 O ntmps84 O (Kb (Ww O O (Wy ?_)))
 refine Wu O O (Om (Rh O) O (Oq (Cw (.inr (.inr (.inl O))) O O) O ?_))
 rintro _ w1 ⟨r1, rfl, f1, c1⟩
 have z1 := c1.size
 refine Wu O O (Om (Ri O) O (Oq (Cw (.inr (.inr (.inl O))) O O) O ?_))
 rintro _ w2 ⟨r2, rfl, f2, c2⟩
 have z2 := c2.size
 refine Om (Rf O O) O (Ww O O (Ka (Qp (Qx O O (Kx ?_)))))
 have CH_2 := (c1.trans c2)
 exact ⟨_, _, O, (by show (cn _, cn _) = _; rw [f1, f2]; rfl), CH_2⟩
set_option maxHeartbeats 1000000 in
theorem ref22_There (SX : Nat → Prop) (X : Option Addr) (n xc : Nat) (ys : List CB) (f : Nat → Cx) (w : World) (sx : SlR SX w X n 1 (ys.map cxV)) (hX : ∀ q, SX q → q < w.heap.size) (hy : LY n f ys) (hn : 1 ≤ n ∧ n ≤ 4096) :
  Calls prog 82 #[.slice X n xc] w (Ret (fun v w' => ∃ r B k os, v = .slice B n k ∧ CR 33 w' r B n k os ∧ LY n (trM (oOf n) f) os ∧ w.heap.size < r ∧ Ch No w w')) := by
 refine Ku func82 O ntmps82 O (Kb (Ww O O (Wy ?_)))
 refine Wu O O (Om (Cs υ31 O) O (Oq (Qi call124 O (ref14_Usual _)) O ?_))
 rintro _ w1 ⟨FA, fc, rfl, sl, c1⟩
 have z1 := c1.size
 refine Oq (Qi call123 O (ref14_Choose _ (by omega) (by omega) _ _ _ _ sl (fun q hq => by omega))) O ?_
 rintro _ w2 ⟨r, rA, rc, rfl, hr1, rk, c2⟩
 have z2 := c2.size
 refine Wu O O (Om (Qu O O) O (Om (Qu O O) O (Km (Ck ζ53) O ?_)))
 intro p3 w3 b3 c3 e3 z3
 refine Ks (Cl ς53 O O O O b3) O ?_
 intro w4 c4 z4 b3_4
 refine Ww O O (Wz ?_)
 have hu9 := ((hasP_all (n := n) (by omega) (by omega)) r hr1).1
 have h09 : r.1.len ≠ 0 := by omega
 have go9 := GO.of_len h09
 refine Qb (Om (Qz ι53 ς53 O O (b3_4.all' O)) O (Wu O O ?_))
 have cc_2_4 : Ch No w2 w4 := (Ch.then (E := No) c3 c4)
 have rk_4 := rk.keep cc_2_4
 have cc_0_4 : Ch No w w4 := (Ch.then (E := No) ((c1.and c2).and c3) c4)
 have sx_4 := sx.keep cc_0_4
 refine Oq (Qi κ69 O (ref20_all go9 h09 _ _ _ _ _ _ _ _ _ _ rk_4 (by omega) sx_4 (fun q hq => by have := hX q hq; omega) hu9)) O ?_
 rintro _ w5 ⟨r5, B5, k5, os5, rfl, tr5, ht5, hr5, c5⟩
 have hlo5 := Ow.lt tr5
 have z5 := c5.size
 obtain ⟨os1, hos1⟩ : ∃ z, z = os5 := ⟨_, rfl⟩
 have htos1 := ht5; rw [← hos1] at htos1 tr5
 refine Ww O O (Ka (Qp (Qx O O (Kx ?_))))
 have h8 := htos1; rw [trM_of h09 hu9 hy.get, oOf_spec hr1] at h8
 have cc_0_5 : Ch No w w5 := ((Ch.then (E := No) ((c1.and c2).and c3) c4).and c5)
 have CH_5 := cc_0_5
 exact ⟨_, _, _, _, O, tr5, h8, by omega, CH_5⟩
end Go.Tm
namespace Go.Tm
set_option maxRecDepth 100000
open Go.RowKit Go.Proofs Go.Proofs.Tryz
abbrev errGs : List Nat := [0, 2, 3, 4, 5, 6, 7, 8, 9, 10, 11, 12, 13, 14, 15, 16, 17, 18, 19]
abbrev errV (E : Nat → Addr) (g : Nat) : Value := .iface 321 (.pointer (some (E g)))
structure ErrT (B : Nat) (E : Nat → Addr) (w : World) : Prop where
  get : ∀ g, g ∈ errGs → w.cell? ⟨g, 0, none⟩ = some (errV E g)
  blk : ∀ g, g ∈ errGs → (E g).block < B ∧ ∃ cs t, w.heap[(E g).block]? = some (.cells cs t (0, 0))
  gn : 24 ≤ B
  inj : ∀ g h, g ∈ errGs → h ∈ errGs → E g = E h → g = h
theorem ErrT.to {B : Nat} {E : Nat → Addr} {D : Nat → Prop} {w w' : World} (h : ErrT B E w) (c : Ch D w w') (hd : ∀ q, q < w.heap.size → q < B → isC w q → ¬ D q := by first | exact fun _ _ _ _ => id | (intro q h1 h2 hx h3; omega)) : ErrT B E w' :=
  ⟨fun g hg => by
    have h0 := h.get g hg
    have hlt : g < 24 := (by decide : ∀ g ∈ errGs, g < 24) g hg
    exact c.cell (hd g (World.block_lt_of_cell? w _ h0) (Nat.lt_of_lt_of_le hlt h.gn) (cell_cells h0)) h0,
   fun g hg => by
    obtain ⟨h1, cs, t, h2⟩ := h.blk g hg
    exact ⟨h1, cs, t, c.old _ _ (hd _ (blk_lt h2) h1 ⟨_, _, _, h2⟩) h2⟩, h.gn, h.inj⟩
theorem ErrT.keep {B : Nat} {E : Nat → Addr} {w w' : World} (h : ErrT B E w) (c : Ch No w w') : ErrT B E w' := h.to c fun _ _ _ _ => id
abbrev errOrd : List Nat := [3, 4, 5, 6, 7, 8, 0, 9, 10, 11, 12, 13, 14, 15, 16, 17, 2, 18, 19]
theorem Rn.idxV {P : Program} {n : Fr} {k : K} {w : World} {d : Option Nat} {ty : TypeId} {pos : String} {aft : Array Edge} {g : Option (Nat × Bool)} {t e : TypeId} {len : Nat} {x y : Operand} {cs : Array Value} {q : IntKind} {i : Int} {v : Value} (ht : P.underlying t = some (.array len e)) (ha : ∀ w, (isAgg e).run P w = .ok false w) (hz : ∀ w, (sizeOf e).run P w = .ok 1 w)
  (hx : ev k x = some (.agg cs)) (hy : ev k y = some (.int q i)) (h0 : 0 ≤ i) (h1 : i < len) (hv : cs[i.toNat]? = some v) :
  Rn P n k w { dst := d, op := .index t x y, type := ty, pos := pos, after := aft, guard := g } v :=
 fun a hf => by simp [execOp, hf.eval hx, hf.eval hy, Instr.index, run_underlying ht, asIntOf, h0, h1, part, ha, hz, hv]
theorem Rn.err_eql {n : Fr} {k : K} {w : World} {d : Option Nat} {ty : TypeId} {pos : String} {aft : Array Edge} {gd : Option (Nat × Bool)} {t' : TypeId} {x y : Operand} {B : Nat} {E : Nat → Addr} {g h : Nat} (er : ErrT B E w) (hg : g ∈ errGs) (hh : h ∈ errGs) (hx : ev k x = some (errV E g)) (hy : ev k y = some (errV E h)) :
  Rn prog n k w { dst := d, op := .binOp .eql 28 x y t', type := ty, pos := pos, after := aft, guard := gd } (.bool (decide (g = h))) := by
 refine Rz hx hy (fun x y => ?_)
 obtain ⟨_, ca, ta, b1⟩ := er.blk g hg
 obtain ⟨_, cb, tb, b2⟩ := er.blk h hh
 by_cases e : g = h
 ·
  subst e
  have := run_eql_iface_ptr_same (P := prog) w (ti := 28) (tp := 321) (E g) υ28 υ321 type321 (by kernel_rfl) type338
  simp [eqGuard_at_iface, this]
 ·
  have hne : E g ≠ E h := fun e2 => e (er.inj g h hg hh e2)
  have := run_eql_iface_ptr_other (P := prog) w (ti := 28) (tp := 321) υ28 υ321 type321 (by kernel_rfl) type338 (by decide) hne b1 b2
  simp [eqGuard_at_iface, this, e]
theorem errOrd_mem : ∀ (i g : Nat), errOrd[i]? = some g → g ∈ errGs := by
 intro i g h
 have := List.mem_of_getElem? h
 revert this
 exact (by decide : ∀ g ∈ errOrd, g ∈ errGs) g
def fcan (b : Nat) : Nat := if (Ieee.double.order b b != some .eq) = true then 9221120237041090560 else b
def flG (bs : List Int) : List Nat := bs.map fun z => fcan z.toNat
theorem flG_len (bs : List Int) : (flG bs).length = bs.length := by simp [flG]
theorem flG_take {bs : List Int} {j : Nat} (h : j < bs.length) : ((flG bs).take (j + 1)).map flV = ((flG bs).take j).map flV ++ [.float .f64 (fcan (bs.getD j 0).toNat)] := by
 have h2 : j < (flG bs).length := by rw [flG_len]; exact h
 rw [List.take_add_one, List.map_append, List.getElem?_eq_getElem h2]
 simp [flG, List.getD, h]
theorem flG_all {bs : List Int} {j : Nat} (h : bs.length = j) : ((flG bs).take j).map flV = (flG bs).map flV := by
 rw [List.take_of_length_le (by rw [flG_len]; omega)]
theorem oOf_two (h : UsG 2) : oOf 2 = .mk 2 2 [] := by
 obtain ⟨r, hr, _⟩ := h.ex
 rw [← oOf_spec hr]
 have h2 : (bestF PU 30 2).map (·.1) = some (.mk 2 2 []) := by kernel_rfl
 cases h3 : bestF PU 30 2 with
 | none => rw [h3] at h2; cases h2
 | some r2 =>
  rw [h3] at h2
  rw [hr.unique ⟨30, h3⟩]
  simpa using h2
abbrev l4 : List Nat := [4607182418800017408, 4611686018427387904, 4613937818241073152, 4616189618054758400]
abbrev h3 : List CB := [(4621819117588971520, 0), (13835058055282163712, 4611686018427387904), (13835058055282163712, 0)]
theorem cx_const {p q y : CB} (h : cx p = cx q) (h1 : cx q = (some q.1, some q.2)) (hc : ceq q y = true) : ceq p y = true := by
 rw [h1] at h
 have e : p = q := by
  obtain ⟨a, b⟩ := p
  obtain ⟨c, d⟩ := q
  simp only [cx, Prod.mk.injEq] at h
  obtain ⟨ha, hb⟩ := h
  have key : ∀ u v : Nat, cn u = some v → u = v := fun u v h => by
   unfold cn at h
   split at h
   · cases h
   · injection h
  rw [key _ _ ha, key _ _ hb]
 rw [e]; exact hc
theorem livesF (us : UsG 2) {zs : List CB} (h : ∀ j, j < 4 / 2 + 1 → cx (zs.getD j (0, 0)) = hF 4 (XF l4) j) : ∀ j, j < 3 → ceq (zs.getD j (0, 0)) (h3.getD j (0, 0)) = true := by
 intro j hj
 have e : hF 4 (XF l4) j = fH 2 (trM (.mk 2 2 []) (prF (XF l4))) j := by
  unfold hF
  rw [if_neg (by decide), show 4 / 2 = 2 from rfl, oOf_two us]
 have hz := h j hj
 rw [e] at hz
 match j, hj with
 | 0, _ => exact cx_const (q := (4621819117588971520, 0)) (hz.trans (by kernel_rfl)) (by kernel_rfl) (by kernel_rfl)
 | 1, _ => exact cx_const (q := (13835058055282163712, 4611686018427387904)) (hz.trans (by kernel_rfl)) (by kernel_rfl) (by kernel_rfl)
 | 2, _ => exact cx_const (q := (13835058055282163712, 0)) (hz.trans (by kernel_rfl)) (by kernel_rfl) (by kernel_rfl)
theorem livesI (us : UsG 2) {os : List Nat} (h : ∀ j, j < 2 → cx (os.getD (2 * j) 0, os.getD (2 * j + 1) 0) = ivF 2 (oOf 2) (iZ 2 (fun j => cx (h3.getD j (0, 0)))) j) : cn (os.getD 0 0) = cn 4607182418800017408 ∧ cn (os.getD 3 0) = cn 4616189618054758400 := by
 rw [oOf_two us] at h
 exact ⟨congrArg (·.1) ((h 0 (by omega)).trans (show _ = cx (4607182418800017408, 4611686018427387904) by kernel_rfl)), congrArg (·.2) ((h 1 (by omega)).trans (show _ = cx (4613937818241073152, 4616189618054758400) by kernel_rfl))⟩
theorem inf32w107 : Inf prog 32 (.float .f64 0) 1 8 := ⟨Tryz.t32, type32, rfl, rfl, rfl⟩
theorem inf33w107 : Inf prog 33 (.complex .f64 0 0) 1 16 := ⟨Tryz.t33, type33, rfl, rfl, rfl⟩
theorem bld109_0_1_2_3_4_5_6_7_8_9_10_11_12_13_14_15_16_17_18w107 {v0 v1 v2 v3 v4 v5 v6 v7 v8 v9 v10 v11 v12 v13 v14 v15 v16 v17 v18 : Value} (h : [v0, v1, v2, v3, v4, v5, v6, v7, v8, v9, v10, v11, v12, v13, v14, v15, v16, v17, v18].all Value.oneCell' = true) (w : World) : (Instr.build 109 ([(0, v0), (1, v1), (2, v2), (3, v3), (4, v4), (5, v5), (6, v6), (7, v7), (8, v8), (9, v9), (10, v10), (11, v11), (12, v12), (13, v13), (14, v14), (15, v15), (16, v16), (17, v17), (18, v18)] : List (Nat × Value)).toArray).run prog w = .ok (.agg #[v0, v1, v2, v3, v4, v5, v6, v7, v8, v9, v10, v11, v12, v13, v14, v15, v16, v17, v18]) w := by
 simp only [List.all_cons, Bool.and_eq_true, List.all_nil, and_true] at h
 have hv0 := oneCell_cells (v := v0) (by simp_all)
 have hv1 := oneCell_cells (v := v1) (by simp_all)
 have hv2 := oneCell_cells (v := v2) (by simp_all)
 have hv3 := oneCell_cells (v := v3) (by simp_all)
 have hv4 := oneCell_cells (v := v4) (by simp_all)
 have hv5 := oneCell_cells (v := v5) (by simp_all)
 have hv6 := oneCell_cells (v := v6) (by simp_all)
 have hv7 := oneCell_cells (v := v7) (by simp_all)
 have hv8 := oneCell_cells (v := v8) (by simp_all)
 have hv9 := oneCell_cells (v := v9) (by simp_all)
 have hv10 := oneCell_cells (v := v10) (by simp_all)
 have hv11 := oneCell_cells (v := v11) (by simp_all)
 have hv12 := oneCell_cells (v := v12) (by simp_all)
 have hv13 := oneCell_cells (v := v13) (by simp_all)
 have hv14 := oneCell_cells (v := v14) (by simp_all)
 have hv15 := oneCell_cells (v := v15) (by simp_all)
 have hv16 := oneCell_cells (v := v16) (by simp_all)
 have hv17 := oneCell_cells (v := v17) (by simp_all)
 have hv18 := oneCell_cells (v := v18) (by simp_all)
 have h1 := fill_set (fun i => some (i * 1, 1)) [(0, v0), (1, v1), (2, v2), (3, v3), (4, v4), (5, v5), (6, v6), (7, v7), (8, v8), (9, v9), (10, v10), (11, v11), (12, v12), (13, v13), (14, v14), (15, v15), (16, v16), (17, v17), (18, v18)] [.nilIface, .nilIface, .nilIface, .nilIface, .nilIface, .nilIface, .nilIface, .nilIface, .nilIface, .nilIface, .nilIface, .nilIface, .nilIface, .nilIface, .nilIface, .nilIface, .nilIface, .nilIface, .nilIface] (by simp [okF, agg_cells, hv0, hv1, hv2, hv3, hv4, hv5, hv6, hv7, hv8, hv9, hv10, hv11, hv12, hv13, hv14, hv15, hv16, hv17, hv18, Nat.beq, Nat.ble])
 simp [setF, agg_cells, hv0, hv1, hv2, hv3, hv4, hv5, hv6, hv7, hv8, hv9, hv10, hv11, hv12, hv13, hv14, hv15, hv16, hv17, hv18] at h1
 simp [Instr.build, runUnderlying109, zeroValue109, sizeOf28, agg_cells, h1]
theorem num_list (B : Nat) (E : Nat → Addr) (w : World) (er : ErrT B E w) :
  Calls prog 71 #[] w (Ret (fun v w' => v = .agg (errOrd.map (errV E)).toArray ∧ Ch No w w')) := by
 refine Ku func71 O ntmps71 O (Kb (Km (Ck zeroValue109) O ?_))
 intro p1 w1 b0 c1 e1 z1
 refine Wy ?_
 have er_1 := er.keep c1
 refine Om (Qg ι28 O (er_1.get 3 (by decide))) O (Om (Qg ι28 O (er_1.get 4 (by decide))) O (Om (Qg ι28 O (er_1.get 5 (by decide))) O (Om (Qg ι28 O (er_1.get 6 (by decide))) O (Om (Qg ι28 O (er_1.get 7 (by decide))) O (Om (Qg ι28 O (er_1.get 8 (by decide))) O (Om (Qg ι28 O (er_1.get 0 (by decide))) O (Om (Qg ι28 O (er_1.get 9 (by decide))) O ?_)))))))
 refine Om (Qg ι28 O (er_1.get 10 (by decide))) O (Om (Qg ι28 O (er_1.get 11 (by decide))) O (Om (Qg ι28 O (er_1.get 12 (by decide))) O (Om (Qg ι28 O (er_1.get 13 (by decide))) O (Om (Qg ι28 O (er_1.get 14 (by decide))) O (Om (Qg ι28 O (er_1.get 15 (by decide))) O (Om (Qg ι28 O (er_1.get 16 (by decide))) O (Om (Qg ι28 O (er_1.get 17 (by decide))) O ?_)))))))
 refine Om (Qg ι28 O (er_1.get 2 (by decide))) O (Om (Qg ι28 O (er_1.get 18 (by decide))) O (Om (Qg ι28 O (er_1.get 19 (by decide))) O (Om (Ct O (bld109_0_1_2_3_4_5_6_7_8_9_10_11_12_13_14_15_16_17_18w107 O)) O (Ks (Cl sizeOf109 O O O O b0) O ?_))))
 intro w2 c2 z2 b0_2
 refine Ka (Qp (Rl O O isAgg109 sizeOf109 O (b0_2.all' O) (Kx ?_)))
 have cc_0_2 : Ch No w w2 := (Ch.then (E := No) c1 c2)
 have CH_2 := cc_0_2
 exact ⟨O, CH_2⟩
theorem num_err (B : Nat) (E : Nat → Addr) (g k : Nat) (hk : errOrd[k]? = some g) (hf : ∀ j, j < k → ∀ h, errOrd[j]? = some h → g ≠ h) (w : World) (er : ErrT B E w) :
  Calls prog 30 #[errV E g] w (Ret (fun v w' => v = Kg ((k : Int) + 1) ∧ Ch No w w')) := by
 have hk19 : k < 19 := (List.getElem?_eq_some_iff.1 hk).1
 refine Ku func30 O ntmps30 O (Kb (Ww O O (Wz (Qe ?_))))
 refine Qb (Wu O O (Om (Rn.err_eql_nil υ28 O) O (Ka (Cc O (Qn (Qa ?_))))))
 refine Qe (Kb (Oq (Qi call71 O (num_list _ _ _ er)) O ?_))
 rintro _ w1 ⟨rfl, c1⟩
 have z1 := c1.size
 refine Wu O O (Ka (Qt ?_))
 have er_1 := er.keep c1
 have CH_1 := c1
 refine Kf (σ := Nat) (fun i => [(0, errV E g), (7, .agg (errOrd.map (errV E)).toArray), (8, Kg i)]) (fun i w' => i ≤ k ∧ w1.heap.size ≤ w'.heap.size ∧ ErrT B E w' ∧ Ch (No) w w') (fun i => 20 - i) 0 ?_ ?_
 · exact ⟨(by omega), (Nat.le_refl _), er_1, CH_1⟩
 rintro i w2 ⟨hik, hsz2, er_2, CH_2⟩
 refine Kb (Om (Co O O) O (Wz (Qj O (fun hc1 => ?_) (fun hc1 => ?_))))
 ·
  refine Qn (Qa (Qe (Qt (Qe ?_))))
  obtain ⟨h, hh⟩ : ∃ h, errOrd[i]? = some h := ⟨_, List.getElem?_eq_getElem (show i < 19 by omega)⟩
  refine Qb (Wu O O (Om (Rn.idxV underlying109 ι28 sizeOf28 O O (by omega) (by omega) (v := errV E h) (by simp only [List.getElem?_toArray, List.getElem?_map, Int.toNat_natCast, hh, Option.map_some])) O ?_))
  refine Ww O O (Ww O O (Wy (Wu O O (Wu O O ?_))))
  refine Om (Rn.err_eql er_2 (errOrd_mem _ _ hk) (errOrd_mem _ _ hh) O O) O (Ka (Qj O (fun hc2 => ?_) (fun hc2 => ?_)))
  ·
   refine Kb (Wu O O ?_)
   refine Om (Cd O O) O ?_
   refine Ww O O (Ka (Qp (Cb (Qw (Qw (Cb ?_))))))
   refine Qw (Qx O O (Kx ?_))
   have hik2 : i = k := by rcases Nat.lt_or_ge i k with h9 | h9; (exact absurd hc2 (hf i h9 h hh)); omega
   subst hik2
   exact ⟨O, CH_2⟩
  refine Qn (Ql (Qa (Qb ?_)))
  refine Om (Cd O O) O ?_
  refine Wu O O (Qf ?_)
  refine Ke (i + 1) ?_
  have hne : i ≠ k := fun e => hc2 (by subst e; rw [hk] at hh; injection hh)
  exact ⟨(by omega), (by omega), er_2, CH_2⟩
 omega
theorem num_nil (w : World) :
  Calls prog 30 #[.nilIface] w (Ret (fun v w' => v = Kg 0 ∧ w = w')) := by
 refine Ku func30 O ntmps30 O (Kb (Ww O O (Wz (Qe ?_))))
 refine Qb (Wu O O (Om (Wa υ28 O) O (Ka (Rd O (Kb ?_)))))
 refine Ww O O (Ka (Qp (Qw (Qx O O (Kx ?_)))))
 exact ⟨O, O⟩
theorem ref_Bits (a : Nat) (w : World) :
  Calls prog 52 #[.float .f64 a] w (Ret (fun v w' => v = .int .u64 (bitF a : Nat) ∧ w = w')) := by
 refine Ku func52 O ntmps52 O (Kb (Ww O O (Wy ?_)))
 refine Wu O O (Om (Rn.fromf func58 (by kernel_rfl) O (by kernel_rfl) (by kernel_rfl) O) O (Ww O O (Wz (Kb ?_))))
 refine Wu O O (Om (Rq O O) O (Om (Rb O O) O (Ka (Qj O (fun hc1 => ?_) (fun hc1 => ?_)))))
 ·
  refine Kb (Ww O O (Ka (Qp (Qw (Qx O O ?_)))))
  refine Kx ?_
  exact ⟨by unfold bitF; rw [if_pos (by omega)]; rfl, O⟩
 refine Qn (Qa (Kb (Wu O O (Ww O O (Ka ?_)))))
 refine Qp (Qx O O (Kx ?_))
 exact ⟨by unfold bitF; rw [if_neg (by omega)], O⟩
theorem ref_SameT (a b : Nat) (h : cn a = cn b) (w : World) :
  Calls prog 19 #[.float .f64 a, .float .f64 b] w (Ret (fun v w' => v = .bool true ∧ w = w')) := by
 have he := bitF_same h
 refine Ku func19 O ntmps19 O (Kb (Ww O O (Wy ?_)))
 refine Wu O O (Oq (Qi call52 O (ref_Bits _ _)) O ?_)
 rintro _ _ ⟨rfl, rfl⟩
 refine Wu O O (Oq (Qi call52 O (ref_Bits _ _)) O ?_)
 rintro _ _ ⟨rfl, rfl⟩
 refine Om (Rn.eqlT O O (by rw [he])) O (Ww O O (Ka (Qp (Qx O O (Kx ?_)))))
 exact ⟨O, O⟩
theorem hand_Same (a b c d : Nat) (h : cx (a, b) = cx (c, d)) (w : World) :
  Calls prog 88 #[.complex .f64 a b, .complex .f64 c d] w (Ret (fun v w' => v = .bool true ∧ w = w')) := by
 have h1 : cn a = cn c := congrArg (·.1) h
 have h2 : cn b = cn d := congrArg (·.2) h
 refine Ku func88 O ntmps88 O (Kb (Ww O O (Wy ?_)))
 refine Wu O O (Om (Rh O) O (Wu O O (Om (Rh O) O (Oq (Qi call19 O (ref_SameT _ _ h1 _)) O ?_))))
 rintro _ _ ⟨rfl, rfl⟩
 refine Wu O O (Wu O O (Om (Ri O) O (Wu O O (Om (Ri O) O (Oq (Qi call19 O (ref_SameT _ _ h2 _)) O ?_)))))
 rintro _ _ ⟨rfl, rfl⟩
 refine Om (Qr O O) O (Ww O O (Ka (Qp (Qx O O (Kx ?_)))))
 exact ⟨O, O⟩
theorem hand_SameList (SA SB : Nat → Prop) (A B : Option Addr) (n ca cb : Nat) (xs ys : List CB) (w : World) (sa : SlR SA w A n 1 (xs.map cxV)) (sb : SlR SB w B n 1 (ys.map cxV)) (hs : ∀ i, i < n → cx (xs.getD i (0, 0)) = cx (ys.getD i (0, 0))) (hn9 : n ≤ 17592186044416 := by omega) :
  Calls prog 39 #[.slice A n ca, .slice B n cb] w (Ret (fun v w' => v = .bool true ∧ Ch No w w')) := by
 refine Ku func39 O ntmps39 O (Kb (Ww O O (Wz (Qe ?_))))
 refine Qb (Wu O O (Om (Cs υ31 O) O (Wu O O (Om (Cs υ31 O) O (Om (Wd O O) O (Ka ?_))))))
 refine Qj O (fun hc1 => ?_) (fun hc1 => ?_)
 · omega
 refine Qn (Qa (Qe (Kb (Wu O O (Om (Cs υ31 O) O (Wu O O ?_))))))
 refine Ka (Qt (Kf (σ := Nat) (fun j => [(0, .slice A n ca), (1, .slice B n cb), (13, Kg n), (14, Kg j)]) (fun j w' => j ≤ n ∧ w.heap.size ≤ w'.heap.size ∧ SlR SA w' A n 1 (xs.map cxV) ∧ SlR SB w' B n 1 (ys.map cxV) ∧ Ch (No) w w') (fun j => n - j) 0 ?_ ?_))
 · exact ⟨(by omega), (Nat.le_refl _), sa, sb, (Ch.refl (No) w)⟩
 rintro j w1 ⟨hj, hsz1, sa_1, sb_1, CH_1⟩
 refine Kb (Om (Co O O) O (Wz (Qj O (fun hc2 => ?_) (fun hc2 => ?_))))
 ·
  refine Qn (Qa (Qe (Qt (Kb (Wu O O (Ww O O ?_))))))
  refine Wz (Kj 9 [0, 2, 4, 6, 8, 10, 12, 14, 17] (No) ?_)
  intro w2 c2 z2
  have sa_2 := sa_1.keep c2
  have sb_2 := sb_1.keep c2
  refine Wv O O (Wv O O (Wt (fun hS => Qs υ31 ς33 O O ((sa_2.keep hS).ne (by omega))) O (Wt (fun hS => Qg ι33 O ((sa_2.keep hS).getC (by omega) (by omega))) O (Wv O O (Wv O O (Wt (fun hS => Qs υ31 ς33 O O ((sb_2.keep hS).ne (by omega))) O (Wt (fun hS => Qg ι33 O ((sb_2.keep hS).getC (by omega) (by omega))) O ?_)))))))
  refine Hq (Qi call88 O (hand_Same _ _ _ _ (hs j (by omega)) _)) O ?_
  rintro _ _ ⟨rfl, rfl⟩
  refine ⟨(Ch.refl (No) w2), ?_⟩
  refine Cj (Ww O O (Qf (Ca (Qa (Kb (Wu O O ?_))))))
  refine Om (Rm O) O (Ka (Cc O (Qn (Ql (Qa (Qb ?_))))))
  refine Om (Cd O O) O ?_
  refine Wu O O (Qf ?_)
  refine Ke (j + 1) ?_
  have CH_2 := CH_1.and c2
  exact ⟨(by omega), (by omega), sa_2, sb_2, CH_2⟩
 refine Cn (Qk (Qk (Qy (Qa (Kb (Ww O O ?_))))))
 refine Ka (Qp (Qx O O (Kx ?_)))
 exact ⟨O, CH_1⟩
theorem nat_Float (b : Int) (w : World) :
  Calls prog 76 #[.int .u64 b] w (Ret (fun v w' => v = .float .f64 (fcan b.toNat) ∧ w = w')) := by
 refine Ku func76 O ntmps76 O (Kb (Ww O O (Wy ?_)))
 refine Wu O O (Om (Wi func43 (by kernel_rfl) O (by kernel_rfl) (by kernel_rfl) O) O (Ww O O (Wz (Kb ?_))))
 refine Wu O O (Wu O O (Om (Rn.fneq O O) O (Ka (Cq O (fun hc1 => ?_) (fun hc1 => ?_)))))
 ·
  try simp only [bX] at hc1
  refine Kb (Om (Wi func43 (by kernel_rfl) O (by kernel_rfl) (by kernel_rfl) O) O (Ww O O (Ka (Qp (Qw ?_)))))
  refine Qx O O (Kx ?_)
  exact ⟨by unfold fcan; rw [if_pos hc1]; rfl, O⟩
 try simp only [bX] at hc1
 refine Qn (Qa (Kb (Wu O O (Ww O O (Ka ?_)))))
 refine Qp (Qx O O (Kx ?_))
 exact ⟨by unfold fcan; rw [if_neg (by rw [hc1]; decide)], O⟩
theorem law22_floats (SX : Nat → Prop) (X : Option Addr) (n xc : Nat) (bs : List Int) (w : World) (sx : SlR SX w X n 1 (bs.map UV)) (hX : ∀ q, SX q → q < w.heap.size) (hn : n ≤ 17592186044416 := by omega)  :
  Calls prog 36 #[.slice X n xc] w (Ret (fun v w' => ∃ r A c, v = .slice A n c ∧ FR 32 w' r A n c (flG bs) ∧ w.heap.size < r ∧ Ch No w w')) := by
 have hbl : bs.length = n := by have := sx.len; simpa using this
 refine Ku func36 O ntmps36 O (Kb (Ww O O (Wy ?_)))
 refine Kc (Wk.lit0 υ24 inf32w107) O ?_
 intro p1 w1 N1 c1 e1 z1
 have l6o := Ow.of_new (cs := []) (sz := 1) (l := 0) N1 rfl (by decide)
 refine Ww O O (Wz (Kb (Wu O O (Om (Cs υ22 O) O ?_))))
 refine Wu O O (Ka (Qt ?_))
 have sx_1 := sx.keep c1
 have CH_1 := c1
 refine Kf (σ := Nat × Nat × Option Addr × Nat) (fun (j, r2, A2, c2) => [(3, .slice A2 j c2), (7, .slice X n xc), (8, Kg n), (9, Kg j)]) (fun (j, r2, A2, c2) w' => j ≤ n ∧ w.heap.size < r2 ∧ w1.heap.size ≤ w'.heap.size ∧ Ow w' r2 32 1 A2 j c2 (((flG bs).take j).map flV) ∧ SlR SX w' X n 1 (bs.map UV) ∧ Ch (No) w w') (fun (j, r2, A2, c2) => n - j) (0, (p1 + 1), (Ki p1), 0) ?_ ?_
 · exact ⟨(by omega), (by omega), (Nat.le_refl _), l6o, sx_1, CH_1⟩
 rintro ⟨j, r2, A2, c2⟩ w2 ⟨hj, hr2, hsz2, row_2, sx_2, CH_2⟩
 refine Kb (Om (Co O O) O (Wz (Qj O (fun hc1 => ?_) (fun hc1 => ?_))))
 ·
  refine Qn (Qa (Qe (Qt (Kb (Om (Qs υ22 sizeOf74 O O (sx_2.ne (by omega))) O (Om (Qg isAgg74 O ((sx_2).getU (by omega) (by omega))) O ?_))))))
  refine Ww O O (Ka (Qb (Wu O O (Wu O O (Oq (Qi call76 O (nat_Float _ _)) O ?_)))))
  rintro _ _ ⟨rfl, rfl⟩
  refine Kq 1 1 (Kl υ24 inf32w107 O O) O ?_
  intro p3 w3 l16 l16o c3 e3 z3
  have row_3 := row_2.keep c3
  refine Oq (Cm (S := _) υ24 inf32w107 O (by decide) O O row_3 l16 (by rfl) (fun h => by simp at h) (by omega) (by simp only [maxLen]; omega)) O ?_
  rintro _ w4 ⟨r4, A4, k4, rfl, o4, c4, q4⟩
  have z4 := c4.size
  have y4 := o4.lt
  refine Ww O O (Qf (Ql (Qa (Qb ?_))))
  refine Om (Cd O O) O ?_
  refine Wu O O (Qf ?_)
  refine Ke (j + 1, r4, A4, k4) ?_
  have sx_3 := sx_2.keep c3
  have sx_4 := sx_3.to c4 (Xd hX)
  have CH_3 := CH_2.and c3
  have CH_4 : Ch (No) w w4 := CH_3.then c4
  exact ⟨(by omega), (by omega), (by omega), (by rw [flG_take (by omega)]; exact o4), sx_4, CH_4⟩
 refine Cn (Qk (Qk (Qy (Qa (Kb (Wu O O ?_))))))
 refine Ww O O (Ka (Qp (Qx O O (Kx ?_))))
 obtain rfl : j = n := by omega
 have o9 := row_2; rw [flG_all hbl] at o9
 exact ⟨_, _, _, O, o9, hr2, CH_2⟩
theorem law22_long (a : Int) (w : World) :
  Calls prog 35 #[Kg a] w (Ret (fun v w' => v = .bool (decide (700 < a ∧ a ≤ 4096)) ∧ w = w')) := by
 refine Ku func35 O ntmps35 O (Kb (Ww O O (Wy ?_)))
 refine Wu O O (Om (Rb O O) O (Wu O O (VO.split_if 5 O (fun hc1 => ?_) (fun hc1 => ?_))))
 ·
  refine Wu O O (Om (Ro O O) O (Om (Qr O O) O (Ww O O (Ka (Qp (Qx O O ?_))))))
  refine Kx ?_
  exact ⟨congrArg Value.bool (by rw [Bool.eq_iff_iff, decide_eq_true_eq, decide_eq_true_eq]; omega), O⟩
 refine Oy O (Oy O (Om (Qm O O) O (Ww O O (Ka (Qp (Qx O O ?_))))))
 refine Kx ?_
 exact ⟨congrArg Value.bool (decide_eq_false (by omega)).symm, O⟩
theorem hand_Equal (SA SB : Nat → Prop) (A B : Option Addr) (la lb ca cb : Nat) (xs ys : List CB) (w : World) (sa : SlR SA w A la 1 (xs.map cxV)) (sb : SlR SB w B lb 1 (ys.map cxV)) (hl : la = lb) (hl2 : la ≤ 1000000) (he : ∀ j, j < la → ceq (xs.getD j (0, 0)) (ys.getD j (0, 0)) = true) :
  Calls prog 75 #[.slice A la ca, .slice B lb cb] w (Ret (fun v w' => v = .bool true ∧ Ch No w w')) := by
 refine Ku func75 O ntmps75 O (Kb (Ww O O (Wz (Qe ?_))))
 refine Qb (Wu O O (Om (Cs υ31 O) O (Wu O O (Om (Cs υ31 O) O (Om (Wd O O) O (Ka ?_))))))
 refine Qj O (fun hc1 => ?_) (fun hc1 => ?_)
 · omega
 refine Qn (Qa (Qe (Kb (Wu O O (Om (Cs υ31 O) O (Wu O O ?_))))))
 refine Ka (Qt (Kf (σ := Nat) (fun j => [(0, .slice A la ca), (1, .slice B lb cb), (12, Kg la), (13, Kg j)]) (fun j w' => j ≤ la ∧ w.heap.size ≤ w'.heap.size ∧ SlR SA w' A la 1 (xs.map cxV) ∧ SlR SB w' B lb 1 (ys.map cxV) ∧ Ch (No) w w') (fun j => la - j) 0 ?_ ?_))
 · exact ⟨(by omega), (Nat.le_refl _), sa, sb, (Ch.refl (No) w)⟩
 rintro j w1 ⟨hj, hsz1, sa_1, sb_1, CH_1⟩
 refine Kb (Om (Co O O) O (Wz (Qj O (fun hc2 => ?_) (fun hc2 => ?_))))
 ·
  refine Qn (Qa (Qe (Qt (Kb (Wu O O (Ww O O ?_))))))
  refine Wz (Kj 9 [0, 2, 4, 6, 8, 10, 12, 14, 16] (No) ?_)
  intro w2 c2 z2
  have sa_2 := sa_1.keep c2
  have sb_2 := sb_1.keep c2
  refine Wv O O (Wv O O (Wt (fun hS => Qs υ31 ς33 O O ((sa_2.keep hS).ne (by omega))) O (Wt (fun hS => Qg ι33 O ((sa_2.keep hS).getC (by omega) (by omega))) O (Wv O O (Wv O O (Wt (fun hS => Qs υ31 ς33 O O ((sb_2.keep hS).ne (by omega))) O (Wt (fun hS => Qg ι33 O ((sb_2.keep hS).getC (by omega) (by omega))) O ?_)))))))
  refine Ws (Rn.cneqF O O (he j (by omega))) O (Cj (Qf (Ca (Qa (Cc O (Qn (Ql ?_)))))))
  refine Qa (Qb ?_)
  refine Om (Cd O O) O ?_
  refine Wu O O (Qf ?_)
  refine Ke (j + 1) ?_
  have CH_2 := CH_1.and c2
  exact ⟨(by omega), (by omega), sa_2, sb_2, CH_2⟩
 refine Cn (Qk (Qk (Qy (Qa (Kb (Ww O O ?_))))))
 refine Ka (Qp (Qx O O (Kx ?_)))
 exact ⟨O, CH_1⟩
set_option maxHeartbeats 2000000 in
theorem law22_lives (w : World) (st : StT w) (tab : TabB w.heap.size w) (hG : 24 ≤ w.heap.size := by omega) :
  Calls prog 34 #[] w (Ret (fun v w' => v = .bool true ∧ Ch No w w')) := by
 refine Ku func34 O ntmps34 O (Kb (Ww O O (Wy ?_)))
 refine Kq 1 4 (Kl υ24 inf32w107 O O) O ?_
 intro p1 w1 l6 l6o c1 e1 z1
 have st_1 := st.keep c1
 have tab_1 := tab.keep c1
 refine Oq (Qi call37 O (half_ForwardB _ _ 4 _ l4 _ l6 (fun q hq => by omega) 2 O (by omega) (by omega) st_1 ((tab_1).up (by omega)) (by omega))) O ?_
 rintro _ w2 ⟨q2, zs2, rfl, hf2, hl2, e2, c2⟩
 have yl2 := Ow.lt hf2
 have z2 := c2.size
 refine Wu O O (Om (Qu O O) O (Om (Qu O O) O (Ww O O (Ww O O (Wz ?_)))))
 refine Qb (Kq 1 3 (Kl υ31 inf33w107 O O) O ?_)
 intro p3 w3 l11 l11o c3 e3 z3
 have st_3 := st_1.keep (c2.trans c3)
 have tab_3 := tab_1.keep (c2.trans c3)
 refine Oq (Qi call74 O (half_Inv3 _ _ _ h3 _ l11 (fun q hq => by omega) st_3 ((tab_3).up (by omega)) (by omega))) O ?_
 rintro _ w4 ⟨r4, A4, k4, zs4, rfl, hi4, hv4, us4, e4, c4⟩
 have yl4 := Ow.lt hi4
 have z4 := c4.size
 refine Wu O O (Om (Qu O O) O (Om (Qu O O) O (Ww O O (Ww O O (Wz ?_)))))
 refine Qb (Wu O O (Om (Wa υ28 O) O (Wu O O (Wu O O (Om (Wa υ28 O) O (Om (Qr O O) O (Wu O O ?_)))))))
 refine Wu O O (Kq 1 3 (Kl υ31 inf33w107 O O) O ?_)
 intro p5 w5 l23 l23o c5 e5 z5
 have hf_5 := hf2.keep (c3.trans (c4.trans c5))
 refine Oq (Qi call75 O (hand_Equal _ _ _ _ 3 3 _ _ zs2 h3 _ (hf_5).sl l23 O (by omega) (fun j hj => livesF us4 (hl2).get j hj))) O ?_
 rintro _ w6 ⟨rfl, c6⟩
 have z6 := c6.size
 refine Om (Qr O O) O (Wu O O (Wu O O (Om (Cs υ24 O) O (Om (Rn.eqlT O O (by omega)) O (Om (Qr O O) O (Wu O O (Wu O O ?_)))))))
 have hi_6 := hi4.keep (c5.trans c6)
 refine Om (Qs υ24 ς32 O O (hi_6.sl.ne (by omega))) O (Om (Qg ι32 O (hi_6.sl.getF (by omega))) O (Om (Rn.feqlT O O (feq_const ((livesI us4 hv4).1) (by kernel_rfl) (by kernel_rfl))) O (Om (Qr O O) O (Wu O O (Wu O O (Om (Qs υ24 ς32 O O (hi_6.sl.ne (by omega))) O (Om (Qg ι32 O (hi_6.sl.getF (by omega))) O ?_)))))))
 refine Om (Rn.feqlT O O (feq_const ((livesI us4 hv4).2) (by kernel_rfl) (by kernel_rfl))) O (Om (Qr O O) O (Ww O O (Ka (Qp (Qx O O (Kx ?_))))))
 have CH_6 := (c1.trans (c2.trans (c3.trans (c4.trans (c5.trans c6)))))
 exact ⟨O, CH_6⟩
end Go.Tm
namespace Go.Tm
open Go.RowKit Go.Proofs Go.Proofs.Tryz
end Go.Tm
namespace Go.Tm
set_option maxRecDepth 100000
open Go.RowKit Go.Proofs Go.Proofs.Tryz
theorem inf33w110 : Inf prog 33 (.complex .f64 0 0) 1 16 := ⟨Tryz.t33, type33, rfl, rfl, rfl⟩
theorem half_TwoX (X Y : Option Addr) (n m xc yc : Nat)  (B : Nat) (E : Nat → Addr) (w : World) (hn1 : n = 0 ∨ 4096 < n ∨ ¬ m = n) (er : ErrT B E w) :
  Calls prog 41 #[.slice X n xc, .slice Y m yc] w (Ret (fun v w' => v = .tuple #[.slice none 0 0, .slice none 0 0, errV E 0] ∧ Ch No w w')) := by
 refine Ku func41 O ntmps41 O (Kb (Ww O O (Ww O O (Ww O O (Ka ?_)))))
 refine Kb (Wu O O (Om (Cs υ24 O) O (Ww O O (Wz ?_))))
 refine Kb (Wu O O (Om (Cg O O) O (Wu O O ?_)))
 refine Cz (b := _) 3 21 24 O (fun hc1 Jhc1 => by
   refine Oy O (Oy O (Om (Qr O O) O ?_))
   exact (Qo O (Qo O Jhc1))) (fun hc1 Jhc1 => by
   try simp only [bX] at hc1
   refine Wu O O (Om (Rb O O) O (Om (Qm O O) O ?_))
   exact (Qo O (Qo O Jhc1))) ?_
 refine Wu O O ?_
 refine Cz (b := _) 5 25 30 O (fun hc2 Jhc2 => by
   refine Oy O (Oy O (Oy O (Oy O (Om (Qr O O) O ?_))))
   exact (Qo O (Qo O (Qo O (Qo O Jhc2))))) (fun hc2 Jhc2 => by
   try simp only [bX] at hc2
   refine Wu O O (Om (Cs υ24 O) O (Wu O O (Om (Wd O O) O (Om (Qm O O) O ?_))))
   exact (Qo O (Qo O (Qo O (Qo O Jhc2))))) ?_
 refine Ka (Cq O (fun hc3 => ?_) (fun hc3 => ?_))
 ·
  try simp only [bX] at hc3
  refine Qe (Kj 3 [0, 2, 4] (No) ?_)
  intro w1 c1 z1
  have er_1 := er.keep c1
  refine Wt (fun hS => Qg ι28 O ((er_1.keep hS).get 0 (by decide))) O (Wx O O (Wx O O (Cj (Ww O O (Qf (Ca (Qa ?_)))))))
  refine Qp (Qw (VQ.ret3 O O O O (Kx ?_)))
  have CH_1 := c1
  exact ⟨O, CH_1⟩
 try simp only [bX] at hc3
 omega
theorem ref22_TwoX (X Y : Option Addr) (n m xc yc : Nat) (w : World) (hn1 : n = 0 ∨ 4096 < n ∨ ¬ m = n) :
  Calls prog 42 #[.slice X n xc, .slice Y m yc] w (Ret (fun v w' => v = .tuple #[.slice none 0 0, .slice none 0 0, Kg 7] ∧ Ch No w w')) := by
 refine Ku func42 O ntmps42 O (Kb (Ww O O (Ww O O (Ww O O (Ka ?_)))))
 refine Kb (Wu O O (Om (Cs υ24 O) O (Ww O O (Wz ?_))))
 refine Kb (Wu O O (Wu O O (Om (Cs υ24 O) O (Om (Wd O O) O (Wu O O ?_)))))
 refine Cz (b := _) 3 21 24 O (fun hc1 Jhc1 => by
   refine Oy O (Oy O (Om (Qr O O) O ?_))
   exact (Qo O (Qo O Jhc1))) (fun hc1 Jhc1 => by
   try simp only [bX] at hc1
   refine Wu O O (Om (Co O O) O (Om (Qm O O) O ?_))
   exact (Qo O (Qo O Jhc1))) ?_
 refine Wu O O ?_
 refine Cz (b := _) 3 25 28 O (fun hc2 Jhc2 => by
   refine Oy O (Oy O (Om (Qr O O) O ?_))
   exact (Qo O (Qo O Jhc2))) (fun hc2 Jhc2 => by
   try simp only [bX] at hc2
   refine Wu O O (Om (Rb O O) O (Om (Qm O O) O ?_))
   exact (Qo O (Qo O Jhc2))) ?_
 refine Ka (Cq O (fun hc3 => ?_) (fun hc3 => ?_))
 ·
  try simp only [bX] at hc3
  refine Kb (Ww O O (Ww O O (Ww O O (Ka (Qp ?_)))))
  refine Qw (VQ.ret3 O O O O (Kx ?_))
  exact ⟨O, (Ch.refl (No) w)⟩
 try simp only [bX] at hc3
 omega
set_option maxHeartbeats 2000000 in
theorem ref22_TwoG (SX : Nat → Prop) (X Y : Option Addr) (n xc yc : Nat) (xs ys : List Nat) (w : World) (sx : SlR SX w X n 1 (xs.map flV)) (sy : SlR SX w Y n 1 (ys.map flV)) (hX : ∀ q, SX q → q < w.heap.size) (hn : 1 ≤ n ∧ n ≤ 4096) :
  Calls prog 42 #[.slice X n xc, .slice Y n yc] w (Ret (fun v w' => ∃ r1 A1 k1 zs1 r2 A2 k2 zs2, v = .tuple #[.slice A1 n k1, .slice A2 n k2, Kg 0] ∧ CR 33 w' r1 A1 n k1 zs1 ∧ CR 33 w' r2 A2 n k2 zs2 ∧ LY n (tw1 n (trM (oOf n) (xyF (XF xs) (XF ys)))) zs1 ∧ LY n (tw2 n (trM (oOf n) (xyF (XF xs) (XF ys)))) zs2 ∧ w.heap.size < r1 ∧ w.heap.size < r2 ∧ Ch No w w')) := by
 have hn1 := hn.1
 refine Ku func42 O ntmps42 O (Kb (Ww O O (Ww O O (Ww O O (Ka ?_)))))
 refine Kb (Wu O O (Om (Cs υ24 O) O (Ww O O (Wz ?_))))
 refine Kb (Wu O O (Wu O O (Om (Cs υ24 O) O (Om (Wd O O) O (Wu O O ?_)))))
 refine Cz (b := _) 3 21 24 O (fun hc1 Jhc1 => by
   refine Oy O (Oy O (Om (Qr O O) O ?_))
   exact (Qo O (Qo O Jhc1))) (fun hc1 Jhc1 => by
   try simp only [bX] at hc1
   refine Wu O O (Om (Co O O) O (Om (Qm O O) O ?_))
   exact (Qo O (Qo O Jhc1))) ?_
 refine Wu O O ?_
 refine Cz (b := _) 3 25 28 O (fun hc2 Jhc2 => by
   refine Oy O (Oy O (Om (Qr O O) O ?_))
   exact (Qo O (Qo O Jhc2))) (fun hc2 Jhc2 => by
   try simp only [bX] at hc2
   refine Wu O O (Om (Rb O O) O (Om (Qm O O) O ?_))
   exact (Qo O (Qo O Jhc2))) ?_
 refine Ka (Cq O (fun hc3 => ?_) (fun hc3 => ?_))
 ·
  try simp only [bX] at hc3
  omega
 try simp only [bX] at hc3
 refine Qn (Qa (Kb (Kc (Wk.lit0 υ31 inf33w110) O ?_)))
 intro p1 w1 N1 c1 e1 z1
 have l29o := Ow.of_new (cs := []) (sz := 1) (l := 0) N1 rfl (by decide)
 refine Ww O O (Wz (Kb (Wu O O (Om (Cs υ24 O) O ?_))))
 refine Wu O O (Ka (Qt ?_))
 have sx_1 := sx.keep c1
 have sy_1 := sy.keep c1
 have CH_1 := c1
 refine Kf (σ := Nat × Nat × Option Addr × Nat × List CB) (fun (j, rY, AY, cY, us) => [(0, .slice X n xc), (1, .slice Y n yc), (7, Kg n), (8, .slice AY j cY), (31, Kg n), (32, Kg j)]) (fun (j, rY, AY, cY, us) w' => j ≤ n ∧ w.heap.size < rY ∧ (∀ l, l < j → cx (us.getD l (0, 0)) = xyF (XF xs) (XF ys) l) ∧ w1.heap.size ≤ w'.heap.size ∧ SlR SX w' X n 1 (xs.map flV) ∧ SlR SX w' Y n 1 (ys.map flV) ∧ CR 33 w' rY AY j cY us ∧ Ch (No) w w') (fun (j, rY, AY, cY, us) => n - j) (0, (p1 + 1), (Ki p1), 0, []) ?_ ?_
 · exact ⟨(by omega), (by omega), (fun m h => absurd h (Nat.not_lt_zero _)), (Nat.le_refl _), sx_1, sy_1, l29o, CH_1⟩
 rintro ⟨j, rY, AY, cY, us⟩ w2 ⟨hj, hrY, hys, hsz2, sx_2, sy_2, yy_2, CH_2⟩
 have hol2 := CR.len yy_2
 refine Kb (Om (Co O O) O (Wz (Qj O (fun hc4 => ?_) (fun hc4 => ?_))))
 ·
  refine Qn (Qa (Qe (Qt (Kb (Wu O O (Ww O O ?_))))))
  refine Ka (Kj 12 [0, 2, 4, 6, 8, 10, 12, 14, 16, 18, 21, 23] (At rY) ?_)
  intro w3 c3 z3
  have sx_3 := sx_2.keep c3
  have sy_3 := sy_2.keep c3
  have yy_3 := yy_2.keep c3
  refine Wv O O (Wv O O (Wv O O ?_))
  refine Wt (fun hS => Qs υ24 ς32 O O ((sx_3.to hS (Xd hX)).ne (by omega))) O ?_
  refine Wt (fun hS => Qg ι32 O ((sx_3.to hS (Xd hX)).getF (by omega))) O ?_
  refine Wv O O (Wv O O ?_)
  refine Wt (fun hS => Qs υ24 ς32 O O ((sy_3.to hS (Xd hX)).ne (by omega))) O ?_
  refine Wt (fun hS => Qg ι32 O ((sy_3.to hS (Xd hX)).getF (by omega))) O ?_
  refine Ws (Rf O O) O (Kr 1 1 (Kl υ31 inf33w110 O O) O ?_)
  intro p4 w4 l45 l45o c4 e4 z4
  have RD_4 := (Ch.refl (At rY) w3).and c4
  refine ⟨RD_4, ?_⟩
  have yy_4 := yy_3.keep c4
  refine Hq (Cm (S := _) υ31 inf33w110 O (by decide) O O yy_4 l45 (by rfl) (fun h => by simp at h) (by omega) (by simp only [maxLen]; omega)) O ?_
  rintro _ w5 ⟨r5, A5, k5, rfl, o5, c5, q5⟩
  have z5 := c5.size
  have y5 := o5.lt
  have RD_5 : Ch (At rY) w3 w5 := RD_4.then c5
  refine ⟨RD_5, ?_⟩
  refine Cj (Ww O O (Qf (Ca (Ql (Qa (Qb ?_))))))
  refine Om (Cd O O) O ?_
  refine Wu O O (Qf ?_)
  refine Ke (j + 1, r5, A5, k5, us ++ [(xs.getD j 0, ys.getD j 0)]) ?_
  have sx_4 := sx_3.keep c4
  have sx_5 := sx_4.to c5 (Xd hX)
  have sy_4 := sy_3.keep c4
  have sy_5 := sy_4.to c5 (Xd hX)
  have CH_4 := CH_2.and (c3.trans c4)
  have CH_5 : Ch (No) w w5 := CH_4.then c5
  exact ⟨(by omega), (by omega), (LY.snoc hys hol2 O), (by omega), sx_5, sy_5, (by show Ow _ _ _ _ _ _ _ (List.map cxV (_ ++ _)); rw [List.map_append]; exact o5), CH_5⟩
 refine Cn (Qk (Qk (Qy (Qa (Qe ?_)))))
 obtain rfl : n = j := by omega
 have hy0 : LY n (xyF (XF xs) (XF ys)) us := ⟨CR.len yy_2, hys⟩
 refine Qb (Wu O O ?_)
 refine Oq (Qi call82 O (ref22_There _ _ n _ us (xyF (XF xs) (XF ys)) _ (yy_2).sl (fun q hq => by have := Ow.lt yy_2; omega) hy0 (by omega))) O ?_
 rintro _ w6 ⟨rT, AT, kT, ts, rfl, tz6, hts, yt6, c6⟩
 have htl := hts.len; have ytl6 := Ow.lt tz6
 have z6 := c6.size
 refine Ww O O (Wy (Kc (Wk.lit0 υ31 inf33w110) O ?_))
 intro p7 w7 N7 c7 e7 z7
 have l50o := Ow.of_new (cs := []) (sz := 1) (l := 0) N7 rfl (by decide)
 refine Kc (Wk.lit0 υ31 inf33w110) O ?_
 intro p8 w8 N8 c8 e8 z8
 have l51o := Ow.of_new (cs := []) (sz := 1) (l := 0) N8 rfl (by decide)
 refine Ww O O (Ww O O (Wz (Kb (Wu O O ?_))))
 refine Om (Cs υ31 O) O (Wu O O (Ka (Qt ?_)))
 have tz_8 := tz6.keep (c7.trans c8)
 have l50o_8 := l50o.keep c8
 have CH_8 := CH_2.and (c6.trans (c7.trans c8))
 refine Kf (σ := Nat × Nat × Option Addr × Nat × List CB × Nat × Option Addr × Nat × List CB) (fun (k, rZ, AZ, cZ, os1, rV, AV, cV, os2) => [(7, Kg n), (8, .slice AT n kT), (10, .slice AZ k cZ), (11, .slice AV k cV), (53, Kg n), (54, Kg k)]) (fun (k, rZ, AZ, cZ, os1, rV, AV, cV, os2) w' => k ≤ n ∧ (w.heap.size < rZ ∧ w.heap.size < rV ∧ rT < rZ ∧ rT < rV ∧ ¬ rZ = rV) ∧ (∀ l, l < k → cx (os1.getD l (0, 0)) = tw1 n (trM (oOf n) (xyF (XF xs) (XF ys))) l) ∧ (∀ l, l < k → cx (os2.getD l (0, 0)) = tw2 n (trM (oOf n) (xyF (XF xs) (XF ys))) l) ∧ w8.heap.size ≤ w'.heap.size ∧ CR 33 w' rT AT n kT ts ∧ CR 33 w' rZ AZ k cZ os1 ∧ CR 33 w' rV AV k cV os2 ∧ Ch (No) w w') (fun (k, rZ, AZ, cZ, os1, rV, AV, cV, os2) => n - k) (0, (p7 + 1), (Ki p7), 0, [], (p8 + 1), (Ki p8), 0, []) ?_ ?_
 · exact ⟨(by omega), (by omega), (fun m h => absurd h (Nat.not_lt_zero _)), (fun m h => absurd h (Nat.not_lt_zero _)), (Nat.le_refl _), tz_8, l50o_8, l51o, CH_8⟩
 rintro ⟨k, rZ, AZ, cZ, os1, rV, AV, cV, os2⟩ w9 ⟨hk, hrZ, hz1, hz2, hsz9, tz_9, z1_9, z2_9, CH_9⟩
 have ho1 := CR.len z1_9
 have ho2 := CR.len z2_9
 have yg1 := Ow.lt z1_9
 have yg2 := Ow.lt z2_9
 have em2 : k < n → ((n : Int) - (k : Int)) % (n : Int) = (((n - k) % n : Nat) : Int) := fun h9 => by rw [← Int.ofNat_sub (by omega)]; rfl
 have hm2 := Nat.mod_lt (n - k) (show 0 < n by omega)
 refine Kb (Om (Co O O) O (Wz (Qj O (fun hc5 => ?_) (fun hc5 => ?_))))
 ·
  refine Qn (Qa (Qe (Qt (Kb (Wu O O (Ww O O ?_))))))
  refine Wz (Kj 14 [0, 2, 4, 6, 8, 10, 12, 14, 16, 18, 20, 22, 25, 26] (No) ?_)
  intro w10 c10 z10
  have tz_10 := tz_9.keep c10
  have z1_10 := z1_9.keep c10
  have z2_10 := z2_9.keep c10
  refine Wv O O (Wv O O (Ws (Qs υ31 ς33 O O (tz_10.sl.ne (by omega))) O (Wt (fun hS => Qg ι33 O ((tz_10.keep hS).sl.getC (by omega) (by omega))) O (Wv O O (Wv O O (Wv O O ?_))))))
  refine Ws (Rg O O) O ?_
  refine Wv O O (Ws (Rq O O) O (Ws (Qs υ31 ς33 O O (tz_10.sl.ne (by omega))) O (Wt (fun hS => Qg ι33 O ((tz_10.keep hS).sl.getC (by omega) (by omega))) O (Hq (Qi call83 O (ref02_Conj _ _ _)) O ?_))))
  rintro _ w11 ⟨p11, q11, rfl, F11, c11⟩
  have z11 := c11.size
  have RD_11 := (Ch.refl (No) w10).and c11
  refine ⟨RD_11, ?_⟩
  refine Wx O O (Cj (Ww O O (Qf (Ca (Qa (Kb ?_))))))
  refine Wu O O (Wu O O (Wu O O (Oq (Qi call85 O (ref22_plus _ _ _ _ _)) O ?_)))
  rintro _ w12 ⟨p12, q12, rfl, F12, c12⟩
  have z12 := c12.size
  refine Oq (Qi call84 O (ref22_half _ _ _)) O ?_
  rintro _ w13 ⟨p13, q13, rfl, F13, c13⟩
  have z13 := c13.size
  refine Kq 1 1 (Kl υ31 inf33w110 O O) O ?_
  intro p14 w14 l75 l75o c14 e14 z14
  have z1_14 := z1_10.keep (c11.trans (c12.trans (c13.trans c14)))
  refine Oq (Cm (S := _) υ31 inf33w110 O (by decide) O O z1_14 l75 (by rfl) (fun h => by simp at h) (by omega) (by simp only [maxLen]; omega)) O ?_
  rintro _ w15 ⟨r15, A15, k15, rfl, o15, c15, q15⟩
  have z15 := c15.size
  have y15 := o15.lt
  refine Ww O O (Ka (Qb (Wu O O (Wu O O (Wu O O (Oq (Qi call87 O (ref22_less _ _ _ _ _)) O ?_))))))
  rintro _ w16 ⟨p16, q16, rfl, F16, c16⟩
  have z16 := c16.size
  refine Oq (Qi call86 O (ref02_MinusI _ _ _)) O ?_
  rintro _ w17 ⟨p17, q17, rfl, F17, c17⟩
  have z17 := c17.size
  refine Oq (Qi call84 O (ref22_half _ _ _)) O ?_
  rintro _ w18 ⟨p18, q18, rfl, F18, c18⟩
  have z18 := c18.size
  refine Kq 1 1 (Kl υ31 inf33w110 O O) O ?_
  intro p19 w19 l83 l83o c19 e19 z19
  have z2_14 := z2_10.keep (c11.trans (c12.trans (c13.trans c14)))
  have z2_15 := z2_14.to c15
  have z2_19 := z2_15.keep (c16.trans (c17.trans (c18.trans c19)))
  refine Oq (Cm (S := _) υ31 inf33w110 O (by decide) O O z2_19 l83 (by rfl) (fun h => by simp at h) (by omega) (by simp only [maxLen]; omega)) O ?_
  rintro _ w20 ⟨r20, A20, k20, rfl, o20, c20, q20⟩
  have z20 := c20.size
  have y20 := o20.lt
  refine Ww O O (Qf (Ql (Qa (Qb ?_))))
  refine Om (Cd O O) O ?_
  refine Wu O O (Qf ?_)
  refine Ke (k + 1, r15, A15, k15, os1 ++ [(p13, q13)], r20, A20, k20, os2 ++ [(p18, q18)]) ?_
  have tz_14 := tz_10.keep (c11.trans (c12.trans (c13.trans c14)))
  have tz_15 := tz_14.to c15
  have tz_19 := tz_15.keep (c16.trans (c17.trans (c18.trans c19)))
  have tz_20 := tz_19.to c20
  have z1_19 := o15.keep (c16.trans (c17.trans (c18.trans c19)))
  have z1_20 := z1_19.to c20
  have CH_14 := CH_9.and (c10.trans (c11.trans (c12.trans (c13.trans c14))))
  have CH_15 : Ch (No) w w15 := CH_14.then c15
  have CH_19 := CH_15.and (c16.trans (c17.trans (c18.trans c19)))
  have CH_20 : Ch (No) w w20 := CH_19.then c20
  exact ⟨(by omega), (by omega), (LY.snoc hz1 ho1 (by rw [F13, F12, F11, Int.toNat_natCast, em2 (by omega), Int.toNat_natCast, hts.get _ hm2, hts.get k (by omega)]; rfl)), (LY.snoc hz2 ho2 (by rw [F18, F17, F16, F11, Int.toNat_natCast, em2 (by omega), Int.toNat_natCast, hts.get _ hm2, hts.get k (by omega)]; rfl)), (by omega), tz_20, (by show Ow _ _ _ _ _ _ _ (List.map cxV (_ ++ _)); rw [List.map_append]; exact z1_20), (by show Ow _ _ _ _ _ _ _ (List.map cxV (_ ++ _)); rw [List.map_append]; exact o20), CH_20⟩
 refine Cn (Qk (Qk (Qy (Qa (Kb (Wu O O ?_))))))
 refine Wu O O (Ww O O (Ww O O (Ww O O (Ka (Qp (VQ.ret3 O O O O ?_))))))
 refine Kx ?_
 obtain rfl : n = k := by omega
 exact ⟨_, _, _, os1, _, _, _, os2, O, z1_9, z2_9, ⟨CR.len z1_9, hz1⟩, ⟨CR.len z2_9, hz2⟩, hrZ.1, hrZ.2.1, CH_9⟩
set_option maxHeartbeats 2000000 in
theorem law_HT_ok (SX : Nat → Prop) (X : Option Addr) (n xc : Nat) (bs : List Int) (Y : Option Addr) (yc : Nat) (ds : List Int) (w : World) (sx : SlR SX w X n 1 (bs.map UV)) (sy : SlR SX w Y n 1 (ds.map UV)) (hX : ∀ q, SX q → q < w.heap.size) (hn : n ≤ 17592186044404) (h1 : 1 ≤ n ∧ n ≤ 700) (st : StT w) (tab : TabB w.heap.size w) (hG : 24 ≤ w.heap.size) :
  Calls prog 10 #[.slice X n xc, .slice Y n yc] w (Ret (fun v w' => v = .bool true ∧ Ch No w w')) := by
 refine Ku func10 O ntmps10 O (Kb (Ww O O (Wy ?_)))
 refine Oq (Qi call34 O (law22_lives _ st ((tab).up (by omega)))) O ?_
 rintro _ w1 ⟨rfl, c1⟩
 have z1 := c1.size
 refine Ww O O (Wz (Kb (Wu O O (Om (Rm O) O ?_))))
 refine Wu O O (Wu O O (Om (Cs υ22 O) O (Oq (Qi call35 O (law22_long _ _)) O ?_)))
 rintro _ _ ⟨rfl, rfl⟩
 refine Om (Qm O O) O (Ka (Qj O (fun hc1 => ?_) (fun hc1 => ?_)))
 · omega
 refine Qn (Qa (Kb (Wu O O ?_)))
 have sx_1 := sx.keep c1
 refine Oq (Qi κ36 O (law22_floats _ _ _ _ bs _ sx_1 (fun q hq => by have := hX q hq; omega))) O ?_
 rintro _ w2 ⟨r2, A2, k2, rfl, fl2, yr2, c2⟩
 have yl2 := Ow.lt fl2
 have z2 := c2.size
 refine Wu O O ?_
 have sy_2 := sy.keep (c1.trans c2)
 refine Oq (Qi κ36 O (law22_floats _ _ _ _ ds _ sy_2 (fun q hq => by have := hX q hq; omega))) O ?_
 rintro _ w3 ⟨r3, A3, k3, rfl, fx3, yr3, c3⟩
 have yl3 := Ow.lt fx3
 have z3 := c3.size
 have fl_3 := fl2.keep c3
 have st_3 := st.keep (c1.trans (c2.trans c3))
 have tab_3 := tab.keep (c1.trans (c2.trans c3))
 refine Oq (Qi call41 O (half_TwoG _ _ _ n _ _ (flG bs) (flG ds) _ ((fl_3).sl.weak (S' := fun q => q < w3.heap.size) (fun q hq => by omega)) ((fx3).sl.weak (S' := fun q => q < w3.heap.size) (fun q hq => by omega)) (fun q hq => hq) (by omega) st_3 ((tab_3).up (by omega)) (by omega))) O ?_
 rintro _ w4 ⟨q4, r4, zs4, ys4, rfl, ha4, hb4, hl4, hm4, e4, f4, c4⟩
 have yl4 := Ow.lt ha4; have yk4 := Ow.lt hb4
 have z4 := c4.size
 refine Wu O O (Om (Qu O O) O (Om (Qu O O) O (Om (Qu O O) O (Ww O O (Ww O O (Ww O O (Qf ?_)))))))
 refine Qa (Kb (Wu O O ?_))
 have sx_4 := sx_1.keep (c2.trans (c3.trans c4))
 refine Oq (Qi κ36 O (law22_floats _ _ _ _ bs _ sx_4 (fun q hq => by have := hX q hq; omega))) O ?_
 rintro _ w5 ⟨r5, A5, k5, rfl, f1_5, yr5, c5⟩
 have yl5 := Ow.lt f1_5
 have z5 := c5.size
 refine Wu O O ?_
 have sy_5 := sy_2.keep (c3.trans (c4.trans c5))
 refine Oq (Qi κ36 O (law22_floats _ _ _ _ ds _ sy_5 (fun q hq => by have := hX q hq; omega))) O ?_
 rintro _ w6 ⟨r6, A6, k6, rfl, f2_6, yr6, c6⟩
 have yl6 := Ow.lt f2_6
 have z6 := c6.size
 have f1_6 := f1_5.keep c6
 refine Oq (Qi call42 O (ref22_TwoG _ _ _ n _ _ (flG bs) (flG ds) _ ((f1_6).sl.weak (S' := fun q => q < w6.heap.size) (fun q hq => by omega)) ((f2_6).sl.weak (S' := fun q => q < w6.heap.size) (fun q hq => by omega)) (fun q hq => hq) (by omega))) O ?_
 rintro _ w7 ⟨q7, A7, k7, zs7, r7, B7, l7, ys7, rfl, za7, zb7, hl7, hm7, e7, f7, c7⟩
 have yl7 := Ow.lt za7; have yk7 := Ow.lt zb7
 have z7 := c7.size
 refine Wu O O (Om (Qu O O) O (Om (Qu O O) O (Om (Qu O O) O (Ww O O (Ww O O (Ww O O (Qf ?_)))))))
 refine Qa (Kb (Wu O O (Wu O O ?_)))
 have ha_7 := ha4.keep (c5.trans (c6.trans c7))
 refine Oq (Qi κ39 O (hand_SameList _ _ _ _ _ _ _ _ _ _ (ha_7).sl (za7).sl (fun i hi => (hl4.get i hi).trans (hl7.get i hi).symm))) O ?_
 rintro _ w8 ⟨rfl, c8⟩
 have z8 := c8.size
 refine Wu O O (Wu O O (Wu O O ?_))
 have hb_8 := hb4.keep (c5.trans (c6.trans (c7.trans c8)))
 have zb_8 := zb7.keep c8
 refine Oq (Qi κ39 O (hand_SameList _ _ _ _ _ _ _ _ _ _ (hb_8).sl (zb_8).sl (fun i hi => (hm4.get i hi).trans (hm7.get i hi).symm))) O ?_
 rintro _ w9 ⟨rfl, c9⟩
 have z9 := c9.size
 refine Om (Qr O O) O (Wu O O (Wu O O (Oq (Qi call30 O (num_nil _)) O ?_)))
 rintro _ _ ⟨rfl, rfl⟩
 refine Wu O O (Om (Rn.eqlT O O O) O (Om (Qr O O) O (Ww O O (Ka (Qp (Qx O O ?_))))))
 refine Kx ?_
 have CH_9 := (c1.trans (c2.trans (c3.trans (c4.trans (c5.trans (c6.trans (c7.trans (c8.trans c9))))))))
 exact ⟨O, CH_9⟩
theorem law_HT_mid (SX : Nat → Prop) (X : Option Addr) (n xc : Nat) (bs : List Int) (Y : Option Addr) (m yc : Nat) (ds : List Int) (w : World) (sx : SlR SX w X n 1 (bs.map UV)) (sy : SlR SX w Y m 1 (ds.map UV)) (hX : ∀ q, SX q → q < w.heap.size) (hn : n ≤ 17592186044404) (hm : m ≤ 17592186044404) (h1 : 700 < n ∧ n ≤ 4096) (st : StT w) (tab : TabB w.heap.size w) (hG : 24 ≤ w.heap.size) :
  Calls prog 10 #[.slice X n xc, .slice Y m yc] w (Ret (fun v w' => v = .bool true ∧ Ch No w w')) := by
 refine Ku func10 O ntmps10 O (Kb (Ww O O (Wy ?_)))
 refine Oq (Qi call34 O (law22_lives _ st ((tab).up (by omega)))) O ?_
 rintro _ w1 ⟨rfl, c1⟩
 have z1 := c1.size
 refine Ww O O (Wz (Kb (Wu O O (Om (Rm O) O ?_))))
 refine Wu O O (Wu O O (Om (Cs υ22 O) O (Oq (Qi call35 O (law22_long _ _)) O ?_)))
 rintro _ _ ⟨rfl, rfl⟩
 refine Om (Qm O O) O (Ka (Qj O (fun hc1 => ?_) (fun hc1 => ?_)))
 ·
  refine Kb (Wu O O (Ww O O (Ka (Qp (Qw ?_)))))
  refine Qx O O (Kx ?_)
  have CH_1 := c1
  exact ⟨O, CH_1⟩
 omega
set_option maxHeartbeats 2000000 in
theorem law_HT_bad (SX : Nat → Prop) (X : Option Addr) (n xc : Nat) (bs : List Int) (Y : Option Addr) (m yc : Nat) (ds : List Int) (w : World) (sx : SlR SX w X n 1 (bs.map UV)) (sy : SlR SX w Y m 1 (ds.map UV)) (hX : ∀ q, SX q → q < w.heap.size) (hn : n ≤ 17592186044404) (hm : m ≤ 17592186044404) (h1 : ¬ (700 < n ∧ n ≤ 4096)) (hn1 : n = 0 ∨ 4096 < n ∨ ¬ m = n) (B : Nat) (E : Nat → Addr) (hB : B ≤ w.heap.size) (er : ErrT B E w) (st : StT w) (tab : TabB w.heap.size w) (hG : 24 ≤ w.heap.size) :
  Calls prog 10 #[.slice X n xc, .slice Y m yc] w (Ret (fun v w' => v = .bool true ∧ Ch No w w')) := by
 refine Ku func10 O ntmps10 O (Kb (Ww O O (Wy ?_)))
 refine Oq (Qi call34 O (law22_lives _ st ((tab).up (by omega)))) O ?_
 rintro _ w1 ⟨rfl, c1⟩
 have z1 := c1.size
 refine Ww O O (Wz (Kb (Wu O O (Om (Rm O) O ?_))))
 refine Wu O O (Wu O O (Om (Cs υ22 O) O (Oq (Qi call35 O (law22_long _ _)) O ?_)))
 rintro _ _ ⟨rfl, rfl⟩
 refine Om (Qm O O) O (Ka (Qj O (fun hc1 => ?_) (fun hc1 => ?_)))
 · omega
 refine Qn (Qa (Kb (Wu O O ?_)))
 have sx_1 := sx.keep c1
 refine Oq (Qi κ36 O (law22_floats _ _ _ _ bs _ sx_1 (fun q hq => by have := hX q hq; omega))) O ?_
 rintro _ w2 ⟨r2, A2, k2, rfl, fl2, yr2, c2⟩
 have yl2 := Ow.lt fl2
 have z2 := c2.size
 refine Wu O O ?_
 have sy_2 := sy.keep (c1.trans c2)
 refine Oq (Qi κ36 O (law22_floats _ _ _ _ ds _ sy_2 (fun q hq => by have := hX q hq; omega))) O ?_
 rintro _ w3 ⟨r3, A3, k3, rfl, fx3, yr3, c3⟩
 have yl3 := Ow.lt fx3
 have z3 := c3.size
 have er_3 := er.keep (c1.trans (c2.trans c3))
 refine Oq (Qi call41 O (half_TwoX _ _ n m _ _ B E _ hn1 er_3)) O ?_
 rintro _ w4 ⟨rfl, c4⟩
 have z4 := c4.size
 refine Wu O O (Om (Qu O O) O (Om (Qu O O) O (Om (Qu O O) O (Ww O O (Ww O O (Ww O O (Qf ?_)))))))
 refine Qa (Kb (Wu O O ?_))
 have sx_4 := sx_1.keep (c2.trans (c3.trans c4))
 refine Oq (Qi κ36 O (law22_floats _ _ _ _ bs _ sx_4 (fun q hq => by have := hX q hq; omega))) O ?_
 rintro _ w5 ⟨r5, A5, k5, rfl, f1_5, yr5, c5⟩
 have yl5 := Ow.lt f1_5
 have z5 := c5.size
 refine Wu O O ?_
 have sy_5 := sy_2.keep (c3.trans (c4.trans c5))
 refine Oq (Qi κ36 O (law22_floats _ _ _ _ ds _ sy_5 (fun q hq => by have := hX q hq; omega))) O ?_
 rintro _ w6 ⟨r6, A6, k6, rfl, f2_6, yr6, c6⟩
 have yl6 := Ow.lt f2_6
 have z6 := c6.size
 refine Oq (Qi call42 O (ref22_TwoX _ _ n m _ _ _ hn1)) O ?_
 rintro _ w7 ⟨rfl, c7⟩
 have z7 := c7.size
 refine Wu O O (Om (Qu O O) O (Om (Qu O O) O (Om (Qu O O) O (Ww O O (Ww O O (Ww O O (Qf ?_)))))))
 refine Qa (Kb (Wu O O (Wu O O (Oq (Qi κ39 O (hand_SameList (fun _ => True) (fun _ => True) none none 0 0 0 [] [] _ (SlR.nil _ _ _) (SlR.nil _ _ _) (fun _ h => absurd h (by omega)))) O ?_))))
 rintro _ w8 ⟨rfl, c8⟩
 have z8 := c8.size
 refine Wu O O (Wu O O (Wu O O (Oq (Qi κ39 O (hand_SameList (fun _ => True) (fun _ => True) none none 0 0 0 [] [] _ (SlR.nil _ _ _) (SlR.nil _ _ _) (fun _ h => absurd h (by omega)))) O ?_)))
 rintro _ w9 ⟨rfl, c9⟩
 have z9 := c9.size
 refine Om (Qr O O) O (Wu O O (Wu O O ?_))
 have er_9 := er_3.keep (c4.trans (c5.trans (c6.trans (c7.trans (c8.trans c9)))))
 refine Oq (Qi call30 O (num_err B E 0 6 O (by decide) _ er_9)) O ?_
 rintro _ w10 ⟨rfl, c10⟩
 have z10 := c10.size
 refine Wu O O (Om (Rn.eqlT O O O) O (Om (Qr O O) O (Ww O O (Ka (Qp (Qx O O ?_))))))
 refine Kx ?_
 have CH_10 := (c1.trans (c2.trans (c3.trans (c4.trans (c5.trans (c6.trans (c7.trans (c8.trans (c9.trans c10)))))))))
 exact ⟨O, CH_10⟩
theorem law_HT (SX : Nat → Prop) (X : Option Addr) (n xc : Nat) (bs : List Int) (Y : Option Addr) (m yc : Nat) (ds : List Int) (w : World) (sx : SlR SX w X n 1 (bs.map UV)) (sy : SlR SX w Y m 1 (ds.map UV)) (hX : ∀ q, SX q → q < w.heap.size) (hn : n ≤ 17592186044404) (hm : m ≤ 17592186044404)  (B : Nat) (E : Nat → Addr) (hB : B ≤ w.heap.size) (er : ErrT B E w) (st : StT w) (tab : TabB w.heap.size w) (hG : 24 ≤ w.heap.size) : Calls prog 10 #[.slice X n xc, .slice Y m yc] w (Ret (fun v w' => v = .bool true ∧ Ch No w w')) := by
 by_cases h1 : 700 < n ∧ n ≤ 4096
 · exact law_HT_mid SX X n xc bs Y m yc ds w sx sy hX hn hm h1 st tab hG
 by_cases h2 : n = 0 ∨ 4096 < n ∨ ¬ m = n
 · exact law_HT_bad SX X n xc bs Y m yc ds w sx sy hX hn hm h1 h2 B E hB er st tab hG
 ·
  obtain rfl : m = n := by omega
  exact law_HT_ok SX X m xc bs Y yc ds w sx sy hX hn (by omega) st tab hG
end Go.Tm
namespace Go.Tm
set_option maxRecDepth 100000
open Go.RowKit Go.Proofs Go.ChangeShapes Go.WideShapes Go.Deep Go.Proofs.Tryz
open Go.Proofs.YtpfglkohcfjelaaGreatDoor
theorem laidVars_at {P : Program} {w : World} : ∀ {l : List (String × DataW Unit)} {ps : List MemPlace} (i : Nat) {x : String × DataW Unit}, DataW.LaidVars P w l ps → l[i]? = some x → ∃ ps', DataW.LaidVars P w [x] ps' ∧ ps'.Sublist ps
 | [], _, _, _, _, h => by simp at h
 | (n, d) :: r, ps, 0, x, h, hi => by
  obtain ⟨g, t, cs, fuel, p, q, e1, e2, e3, e4, hr, rfl⟩ := h
  simp only [List.getElem?_cons_zero, Option.some.injEq] at hi
  subst hi
  exact ⟨_, ⟨g, t, cs, fuel, p, [], e1, e2, e3, e4, O, O⟩, by rw [List.append_nil]; exact List.sublist_append_left _ _⟩
 | (n, d) :: r, ps, i + 1, x, h, hi => by
  obtain ⟨g, t, cs, fuel, p, q, e1, e2, e3, e4, hr, rfl⟩ := h
  obtain ⟨ps', h1, h2⟩ := laidVars_at i hr (by simpa using hi)
  exact ⟨ps', h1, h2.trans (List.sublist_append_right _ _)⟩
theorem _root_.Go.laidMet.at {P : Program} {w : World} {l : List (String × DataW Unit)} {x : String × DataW Unit} (h : laidMet P l w) (i : Nat) (hi : l[i]? = some x) : laidMet P [x] w := by
 obtain ⟨ps, hl, hnd, hrows⟩ := h
 obtain ⟨ps', h1, h2⟩ := laidVars_at i hl hi
 exact ⟨ps', h1, h2.nodup hnd, fun b off hp => hrows b off (h2.subset hp)⟩
noncomputable abbrev laidL : List (String × DataW Unit) := Rows.halfTwoRow.laid
theorem lowStar : "*" ++ "errors.errorString" = "*errors.errorString" := by decide
theorem rowErr (u : TypeId) (h : Tryz.prog.typeName? 3 u = some "*errors.errorString") : u = 321 :=
 typeName_ptr_named (nm := "errors.errorString") (by rw [lowStar]; kernel_rfl) (by kernel_rfl) (by decide) u (by rw [lowStar]; exact h)
def errTx : Nat → List UInt8
 | 0 => [116, 105, 109, 98, 114, 101, 58, 32, 108, 101, 110, 103, 116, 104]
 | 2 => [116, 105, 109, 98, 114, 101, 58, 32, 109, 111, 100, 101]
 | 3 => [116, 105, 109, 98, 114, 101, 58, 32, 116, 111, 111, 32, 115, 104, 111, 114, 116]
 | 4 => [116, 105, 109, 98, 114, 101, 58, 32, 118, 97, 114, 105, 110, 116]
 | 5 => [116, 105, 109, 98, 114, 101, 58, 32, 108, 105, 109, 105, 116]
 | 6 => [116, 105, 109, 98, 114, 101, 58, 32, 116, 97, 105, 108]
 | 7 => [116, 105, 109, 98, 114, 101, 58, 32, 114, 97, 110, 103, 101]
 | 8 => [116, 105, 109, 98, 114, 101, 58, 32, 116, 101, 120, 116]
 | 9 => [116, 105, 109, 98, 114, 101, 58, 32, 111, 114, 100, 101, 114]
 | 10 => [116, 105, 109, 98, 114, 101, 58, 32, 112, 114, 111, 103, 114, 97, 109]
 | 11 => [116, 105, 109, 98, 114, 101, 58, 32, 115, 116, 97, 116, 101]
 | 12 => [116, 105, 109, 98, 114, 101, 58, 32, 114, 111, 111, 116]
 | 13 => [116, 105, 109, 98, 114, 101, 58, 32, 112, 101, 114, 109, 117, 116, 97, 116, 105, 111, 110]
 | 14 => [116, 105, 109, 98, 114, 101, 58, 32, 110, 117, 109, 98, 101, 114]
 | 15 => [116, 105, 109, 98, 114, 101, 58, 32, 119, 111, 114, 107, 101, 114, 115]
 | 16 => [116, 105, 109, 98, 114, 101, 58, 32, 100, 111, 110, 101]
 | 17 => [116, 105, 109, 98, 114, 101, 58, 32, 117, 110, 107, 110, 111, 119, 110]
 | 18 => [116, 105, 109, 98, 114, 101, 58, 32, 99, 111, 109, 109, 97, 110, 100]
 | 19 => [116, 105, 109, 98, 114, 101, 58, 32, 101, 120, 97, 99, 116]
 | _ => []
def ErrAt (W : World) (g : Nat) : Prop := ∃ a : Addr, W.cell? ⟨g, 0, none⟩ = some (.iface 321 (.pointer (some a))) ∧ (∃ s : ByteArray, W.cell? a = some (.string s) ∧ s.data.toList = errTx g) ∧ ∃ c t, W.heap[a.block]? = some (.cells c t (0, 0))
theorem err_of {W : World} {n : String} {g : Nat} (h : laidMet prog [(n, .iface "*errors.errorString" (.ptr (.agg [.lit (.string (errTx g))])))] W) (hg : Tryz.prog.globalNamed n = some g) (ht : (Tryz.prog.globals[g]?).map (·.type) = some 28) : ErrAt W g := by
 obtain ⟨ps, ⟨g0, t0, cs0, f0, p0, q0, hg0, ht0, hv0, hd0, _, e0⟩, _, hrows⟩ := h
 obtain rfl := Option.some.inj (hg.symm.trans hg0)
 obtain rfl := Option.some.inj (ht.symm.trans ht0)
 subst e0
 obtain ⟨l0⟩ := cs0
 have ok0 : ∀ u v, l0 = [.iface u v] → Value.okWide prog W .any 0 u v := fun u v e => by
  subst e
  exact (hrows g 0 (by simp [MemPlace.row])).2 u v (by simpa using World.var?_cell hg0 hv0 0)
 obtain ⟨a0, s0, rfl, hc0, hs0, hz0, hp0⟩ := errorString_of_trod υ28 rowErr υ321 underlying338 rfl rfl υ9 (by kernel_rfl) (by kernel_rfl) hd0 ok0
 refine ⟨a0, by simpa using World.var?_cell hg0 hv0 0, ⟨s0, hc0, hs0⟩, ?_⟩
 have hm : MemPlace.cell a0.block a0.off ∈ MemPlace.row a0 1 := by simp [MemPlace.row]
 exact (hrows a0.block a0.off (by rw [hp0]; simp [MemPlace.row])).1
theorem errs_of {W : World} (h : laidMet prog laidL W) : ∀ g, g ∈ errGs → ErrAt W g := by
 simp only [errGs, List.forall_mem_cons]
 exact ⟨err_of (n := "timbre/api.ErrLength") (h.at 9 O) (by kernel_rfl) (by kernel_rfl), err_of (n := "timbre/api.ErrMode") (h.at 19 O) (by kernel_rfl) (by kernel_rfl), err_of (n := "timbre/api.ErrShort") (h.at 3 O) (by kernel_rfl) (by kernel_rfl), err_of (n := "timbre/api.ErrVarint") (h.at 4 O) (by kernel_rfl) (by kernel_rfl), err_of (n := "timbre/api.ErrLimit") (h.at 5 O) (by kernel_rfl) (by kernel_rfl), err_of (n := "timbre/api.ErrTail") (h.at 6 O) (by kernel_rfl) (by kernel_rfl), err_of (n := "timbre/api.ErrRange") (h.at 7 O) (by kernel_rfl) (by kernel_rfl), err_of (n := "timbre/api.ErrText") (h.at 8 O) (by kernel_rfl) (by kernel_rfl), err_of (n := "timbre/api.ErrOrder") (h.at 10 O) (by kernel_rfl) (by kernel_rfl), err_of (n := "timbre/api.ErrProgram") (h.at 11 O) (by kernel_rfl) (by kernel_rfl), err_of (n := "timbre/api.ErrState") (h.at 12 O) (by kernel_rfl) (by kernel_rfl), err_of (n := "timbre/api.ErrRoot") (h.at 13 O) (by kernel_rfl) (by kernel_rfl), err_of (n := "timbre/api.ErrPerm") (h.at 14 O) (by kernel_rfl) (by kernel_rfl), err_of (n := "timbre/api.ErrNumber") (h.at 15 O) (by kernel_rfl) (by kernel_rfl), err_of (n := "timbre/api.ErrWorkers") (h.at 16 O) (by kernel_rfl) (by kernel_rfl), err_of (n := "timbre/api.ErrDone") (h.at 17 O) (by kernel_rfl) (by kernel_rfl), err_of (n := "timbre/api.ErrUnknown") (h.at 18 O) (by kernel_rfl) (by kernel_rfl), err_of (n := "timbre/api.ErrCommand") (h.at 20 O) (by kernel_rfl) (by kernel_rfl), err_of (n := "timbre/api.ErrExact") (h.at 21 O) (by kernel_rfl) (by kernel_rfl), fun _ h => absurd h (List.not_mem_nil)⟩
theorem errT_of {W : World} (h : laidMet prog laidL W) (hgn : 24 ≤ W.heap.size) : ∃ E, ErrT W.heap.size E W := by
 have h0 : ∀ g, ∃ a : Addr, g ∈ errGs → W.cell? ⟨g, 0, none⟩ = some (.iface 321 (.pointer (some a))) ∧ (∃ s : ByteArray, W.cell? a = some (.string s) ∧ s.data.toList = errTx g) ∧ ∃ c t, W.heap[a.block]? = some (.cells c t (0, 0)) := by
  intro g
  by_cases hg : g ∈ errGs
  ·
   obtain ⟨a, ha⟩ := errs_of h g hg
   exact ⟨a, fun _ => ha⟩
  · exact ⟨⟨0, 0, none⟩, fun hg' => absurd hg' hg⟩
 obtain ⟨E, hE⟩ := Classical.axiomOfChoice h0
 refine ⟨E, ⟨fun g hg => (hE g hg).1, fun g hg => ?_, hgn, fun g k hg hk e => ?_⟩⟩
 ·
  obtain ⟨c, t, hc⟩ := (hE g hg).2.2
  exact ⟨blk_lt hc, c, t, hc⟩
 ·
  obtain ⟨s, h1, h2⟩ := (hE g hg).2.1
  obtain ⟨s', h3, h4⟩ := (hE k hk).2.1
  rw [e, h3] at h1
  have hs : s' = s := by simpa using h1
  subst hs
  exact (by decide : ∀ g ∈ errGs, ∀ k ∈ errGs, errTx g = errTx k → g = k) g hg k hk (h2.symm.trans h4)
theorem gn_of {W : World} (h : laidMet prog laidL W) : 24 ≤ W.heap.size := by
 obtain ⟨ps, ⟨g0, t0, cs0, f0, p0, q0, hg0, ht0, hv0, hd0, _, e0⟩, _, hrows⟩ := h.at 1 rfl
 have hg : Tryz.prog.globalNamed "math/bits.deBruijn64tab" = some 23 := by kernel_rfl
 obtain rfl := Option.some.inj (hg.symm.trans hg0)
 unfold World.var? at hv0
 rw [hg] at hv0
 simp only [Option.bind_some] at hv0
 split at hv0
 ·
  rename_i hx
  have := blk_lt hx
  omega
 · cases hv0
theorem tab_of {W : World} (h : laidMet prog laidL W) (hgn : 24 ≤ W.heap.size) : TabB W.heap.size W := by
 have hg : Tryz.prog.globalNamed "internal/strconv.uint64pow10" = some 21 := by kernel_rfl
 refine ⟨Lib.tabIs_of_head hg (by kernel_rfl) underlying314 υ74 (by kernel_rfl) (by kernel_rfl) (h.at 2 (by kernel_rfl)), fun g e => ?_⟩
 obtain rfl := Option.some.inj (hg.symm.trans e)
 omega
section
variable {H : Type} {enc : TypeId × Value → H} {P : Program} {w : World} {base : Nat} {spare : Nat → Bool} {held : Bool}
theorem struct_cells {e : TypeId} {fs : Array Field} {fuel : Nat} {cs : List Value} {x : DataW H × List MemPlace} (he : P.underlying e = some (.struct fs))
  (hone : oneCellFields P fs = true) (hC : P.cellsOf e = fs.size) (h : DataW.trod enc P w base spare held fuel e cs = some x) :
  ∃ (ys : List (DataW H × List MemPlace)) (n : Nat), x.1 = .agg (ys.map (·.1)) ∧ cs.length = fs.size ∧ ∀ (j : Nat) (f : Field), fs[j]? = some f → ∃ (v : Value) (y : DataW H × List MemPlace), cs[j]? = some v ∧ ys[j]? = some y ∧ DataW.trod enc P w base spare held n f.type [v] = some y := by
 obtain ⟨ys, n', hn', hy, hlen, hyl, hf⟩ := DataW.trod_struct he h
 rw [hC] at hlen
 refine ⟨ys, n', by rw [hy], hlen, fun j f hj => ?_⟩
 obtain ⟨ho, hk⟩ := hone_of hone j f hj
 have hjl : j < fs.size := (Array.getElem?_eq_some_iff.1 hj).1
 have hv : cs[j]? = some (cs[j]'(by omega)) := List.getElem?_eq_getElem (by omega)
 have h1 := hf j f hj
 rw [ho, hk] at h1
 have hone' : (cs.drop j).take 1 = [cs[j]'(by omega)] := by
  rw [List.drop_eq_getElem_cons (by omega)]
  rfl
 rw [hone'] at h1
 have hys : ys[j]? = some (ys[j]'(by omega)) := List.getElem?_eq_getElem (by omega)
 exact ⟨_, _, hv, hys, h1.trans hys⟩
end
def stL : List (List UInt8 × Bool × Bool × Int × Bool) := [([], false, false, 0, false), ([103, 97, 116, 104, 101, 114], true, true, 0, false), ([115, 99, 97, 116, 116, 101, 114], true, true, 0, false), ([122, 101, 114, 111], false, false, 0, false), ([116, 119, 105, 115, 116], false, false, 16384, true), ([102, 108, 121], false, true, 5, false), ([100, 105, 114, 101, 99, 116], true, true, 64, false), ([99, 104, 105, 114, 112], false, false, 16384, false), ([102, 105, 108, 108], false, false, 16384, false), ([116, 105, 109, 101, 115], true, false, 0, false), ([99, 111, 110, 106], false, false, 0, false), ([111, 118, 101, 114], false, false, 16384, false)]
def stD : List (DataW Unit) := stL.map fun e => .agg [.lit (.string e.1), .lit (.bool e.2.1), .lit (.bool e.2.2.1), .lit (.int .i64 e.2.2.2.1), .lit (.bool e.2.2.2.2)]
def stK (i : Fin 12) : Bool := match stL[i.1]? with
 | some e => e.2.1 == kSrc i.1 && e.2.2.1 == kJmp i.1 && e.2.2.2.1 == kN i.1 && e.2.2.2.2 == kK i.1
 | none => false
theorem stK_spec {i : Nat} (hi : i < 12) (h : stK ⟨i, hi⟩ = true) : ∃ t, stD[i]? = some (.agg [.lit (.string t), .lit (.bool (kSrc i)), .lit (.bool (kJmp i)), .lit (.int .i64 (kN i)), .lit (.bool (kK i))]) := by
 unfold stK at h
 split at h
 ·
  rename_i e he
  simp only [Bool.and_eq_true, beq_iff_eq] at h
  obtain ⟨⟨⟨h1, h2⟩, h3⟩, h4⟩ := h
  exact ⟨e.1, by rw [stD, List.getElem?_map, he, ← h1, ← h2, ← h3, ← h4]; rfl⟩
 · cases h
theorem add_glob (g k : Nat) : (⟨g, 0, none⟩ : Addr).add k = ⟨g, k, none⟩ := by
 by_cases hk : k = 0
 · subst hk; rfl
 · simp [Addr.add, hk]
theorem st_of {W : World} (h : laidMet prog laidL W) : StT W := by
 obtain ⟨ps, ⟨g0, t0, cs0, f0, p0, q0, hg0, ht0, hv0, hd0, _, e0⟩, _, _⟩ := h.at 22 rfl
 obtain rfl := Option.some.inj ((show Tryz.prog.globalNamed "timbre/steps.table" = some 20 by kernel_rfl).symm.trans hg0)
 obtain rfl := Option.some.inj ((show (Tryz.prog.globals[20]?).map (·.type) = some 260 by kernel_rfl).symm.trans ht0)
 obtain ⟨xs, m1, rfl, hx1, hlen, hn12, hel⟩ := DataW.trod_array υ260 hd0
 have hxs := congrArg Prod.fst hx1
 have ck : Tryz.prog.cellsOf 259 = 5 := by kernel_rfl
 have c9 : Tryz.prog.cellsOf 9 = 1 := by kernel_rfl
 have c4 : Tryz.prog.cellsOf 4 = 1 := by kernel_rfl
 have c3 : Tryz.prog.cellsOf 3 = 1 := by kernel_rfl
 have key : ∀ (i : Nat) (t : List UInt8) (a b : Bool) (n : Int) (k : Bool), (xs.map (·.1))[i]? = some (.agg [.lit (.string t), .lit (.bool a), .lit (.bool b), .lit (.int .i64 n), .lit (.bool k)]) →
   ∃ s : ByteArray, CaR (· < 24) W ((⟨20, 0, none⟩ : Addr).add (i * 5)) [.string s, .bool a, .bool b, .int .i64 n, .bool k] := by
  intro i t a b n k hi
  rw [List.getElem?_map, Option.map_eq_some_iff] at hi
  obtain ⟨x, hx, hxd⟩ := hi
  have hi12 : i < 12 := by have := (List.getElem?_eq_some_iff.1 hx).1; omega
  have h1 := hel i hi12
  rw [hx, ck] at h1
  obtain ⟨ys, n', hy, hcl, hf⟩ := struct_cells υ259 (by kernel_rfl) (by kernel_rfl) h1
  obtain ⟨v0, y0, g0, k0, f0⟩ := hf 0 _ rfl
  obtain ⟨v1, y1, g1, k1, f1⟩ := hf 1 _ rfl
  obtain ⟨v2, y2, g2, k2, f2⟩ := hf 2 _ rfl
  obtain ⟨v3, y3, g3, k3, f3⟩ := hf 3 _ rfl
  obtain ⟨v4, y4, g4, k4, f4⟩ := hf 4 _ rfl
  obtain ⟨s, e0', e0'', _⟩ := DataW.trod_string υ9 f0
  obtain ⟨b1, e1', e1''⟩ := DataW.trod_bool υ4 f1
  obtain ⟨b2, e2', e2''⟩ := DataW.trod_bool υ4 f2
  obtain ⟨z3, e3', e3'', _⟩ := DataW.trod_int υ3 f3
  obtain ⟨b4, e4', e4''⟩ := DataW.trod_bool υ4 f4
  rw [hy] at hxd
  simp only [DataW.agg.injEq] at hxd
  subst e0'' e1'' e2'' e3'' e4''
  have q1 := congrArg (fun l => l[1]?) hxd; have q2 := congrArg (fun l => l[2]?) hxd; have q3 := congrArg (fun l => l[3]?) hxd; have q4 := congrArg (fun l => l[4]?) hxd
  simp only [List.getElem?_map, k1, k2, k3, k4, Option.map_some, List.getElem?_cons_succ, List.getElem?_cons_zero, Option.some.injEq, DataW.lit.injEq, Lit.bool.injEq, Lit.int.injEq, true_and] at q1 q2 q3 q4
  subst q1 q2 q3 q4
  simp only [List.cons.injEq, and_true] at e0' e1' e2' e3' e4'
  subst e0' e1' e2' e3' e4'
  have cell : ∀ j v, j < 5 → ((cs0.toList.drop (i * 5)).take 5)[j]? = some v → W.cell? (((⟨20, 0, none⟩ : Addr).add (i * 5)).add j) = some v := by
   intro j v hj5 hj
   rw [List.getElem?_take, if_pos hj5, List.getElem?_drop, Array.getElem?_toList] at hj
   have := World.var?_cell hg0 hv0 (i * 5 + j)
   rw [hj] at this
   rw [← this, Go.Deep.add_add, add_glob]
  refine ⟨s, fun j v hj => ?_, by rw [add_block]; decide⟩
  match j, hj with
  | 0, hj => obtain rfl := Option.some.inj hj; exact cell 0 _ (by decide) g0
  | 1, hj => obtain rfl := Option.some.inj hj; exact cell 1 _ (by decide) g1
  | 2, hj => obtain rfl := Option.some.inj hj; exact cell 2 _ (by decide) g2
  | 3, hj => obtain rfl := Option.some.inj hj; exact cell 3 _ (by decide) g3
  | 4, hj => obtain rfl := Option.some.inj hj; exact cell 4 _ (by decide) g4
  | j + 5, hj => simp at hj
 have hD : xs.map (·.1) = stD := by
  simp only [DataW.agg.injEq, Rows.laid_timbre_steps_table] at hxs
  exact hxs.symm
 rw [hD] at key
 have all : ∀ i, ∃ s : ByteArray, i < 12 → CaR (· < 24) W ((⟨20, 0, none⟩ : Addr).add (i * 5)) [.string s, .bool (kSrc i), .bool (kJmp i), .int .i64 (kN i), .bool (kK i)] := by
  intro i
  by_cases hi : i < 12
  ·
   have h2 := (by decide : ∀ i : Fin 12, stK i = true) ⟨i, hi⟩
   obtain ⟨t, ht⟩ := stK_spec hi h2
   obtain ⟨s, hs⟩ := key i _ _ _ _ _ ht
   exact ⟨s, fun _ => hs⟩
  · exact ⟨⟨#[]⟩, fun h => absurd h hi⟩
 obtain ⟨nm, hnm⟩ := Classical.axiomOfChoice all
 exact ⟨nm, hnm⟩
end Go.Tm
