/- Lemmas of this claim, joined by program. Walks of functions: half, in general; the document's. Walks of functions: the law HalfForward: lists alike, floats of bits, fixed facts, errors. Walks of functions: the law HalfForward. What a row's laid variables give the walks, halfForward. Conditions: each lemma names its own. -/
import Derived.Test.YtpfglkohcfjelaaGreatDoorH16
import Derived.LaidEql
import Derived.Test.YtpfglkohcfjelaaGreatDoorRows
import Derived.ProofKit
import Derived.LaidMore
import Derived.LaidSub
import Derived.OpenShut
import Derived.Stop.Joined
import Derived.Stop.LaidErr
import Derived.Lib.LaidTab
import Derived.Deep.Slices
import Derived.Deep.Fields
import Derived.Deep.OwnRows
import Derived.WideKeyArgs
import Derived.ChangeSlices
set_option linter.all false
namespace Go.Tm
set_option maxRecDepth 100000
open Go.RowKit Go.Proofs Go.Proofs.Tryz
abbrev halv : Fl := cn 4602678819172646912
def evC (a b : Cx) : Cx := timesF (plusC a b) halv
def odC (a b : Cx) : Cx := timesF (lessC a b) halv
def mdC (a b : Cx) : Cx := timesF (minusI (lessC a b)) halv
def prF (X : Nat → Fl) (j : Nat) : Cx := (X (2 * j), X (2 * j + 1))
def fH (h : Nat) (z : Nat → Cx) (k : Nat) : Cx := plusC (evC (z (k % h)) (conjC (z ((h - k) % h)))) (twistF (mdC (z (k % h)) (conjC (z ((h - k) % h)))) (2 * h) k)
def iZ (h : Nat) (f : Nat → Cx) (k : Nat) : Cx := plusC (evC (f k) (conjC (f (h - k)))) (timesI (twistF (odC (f k) (conjC (f (h - k)))) (2 * h) ((2 * h - k) % (2 * h))))
noncomputable def hF (n : Nat) (X : Nat → Fl) (k : Nat) : Cx := if n = 1 then (X 0, fl0) else fH (n / 2) (trM (oOf (n / 2)) (prF X)) k
theorem fH_of {h n k : Nat} {Z : Nat → Cx} {za zb c9 c10 c11 c12 c13 c14 c15 : CB} (ha : cx za = Z (k % h)) (hb : cx zb = Z ((h - k) % h)) (F9 : cx c9 = conjC (cx zb)) (F10 : cx c10 = (fop .sub (cn za.1) (cn c9.1), fop .sub (cn za.2) (cn c9.2))) (F11 : cx c11 = minusI (cx c10)) (F12 : cx c12 = timesF (cx c11) halv) (F13 : cx c13 = twistF (cx c12) n k) (F14 : cx c14 = evC (cx za) (cx c9)) (F15 : cx c15 = (fop .add (cn c14.1) (cn c13.1), fop .add (cn c14.2) (cn c13.2))) (hn : n = 2 * h) : cx c15 = fH h Z k := by
 subst hn
 have e1 : (fop .add (cn c14.1) (cn c13.1), fop .add (cn c14.2) (cn c13.2)) = plusC (cx c14) (cx c13) := rfl
 have e2 : (fop .sub (cn za.1) (cn c9.1), fop .sub (cn za.2) (cn c9.2)) = lessC (cx za) (cx c9) := rfl
 unfold fH mdC
 rw [F15, e1, F14, F13, F12, F11, F10, e2, F9, ha, hb]
theorem iZ_of {h n k q : Nat} {Z : Nat → Cx} {za zb c9 c10 c11 c12 c13 c14 : CB} (ha : cx za = Z k) (hb : cx zb = Z (h - k)) (F9 : cx c9 = conjC (cx zb)) (F10 : cx c10 = odC (cx za) (cx c9)) (F11 : cx c11 = twistF (cx c10) n q) (F12 : cx c12 = evC (cx za) (cx c9)) (F13 : cx c13 = timesI (cx c11)) (F14 : cx c14 = (fop .add (cn c12.1) (cn c13.1), fop .add (cn c12.2) (cn c13.2))) (hn : n = 2 * h) (hq : q = (2 * h - k) % (2 * h)) : cx c14 = iZ h Z k := by
 subst hn hq
 have e1 : (fop .add (cn c12.1) (cn c13.1), fop .add (cn c12.2) (cn c13.2)) = plusC (cx c12) (cx c13) := rfl
 unfold iZ
 rw [F14, e1, F12, F13, F11, F10, F9, ha, hb]
theorem UsG.o {n : Nat} (us : UsG n) : (oOf n).len = n := by
 obtain ⟨r, hr, hl⟩ := us.ex
 rw [← oOf_spec hr]
 exact hl
theorem trM_ext {n : Nat} (us : UsG n) (h1 : 1 ≤ n) {x y : Nat → Cx} (h : ∀ j, j < n → x j = y j) : trM (oOf n) x = trM (oOf n) y := by
 have ho := us.o
 have hl : (oOf n).len ≠ 0 := by omega
 funext k
 exact trM_loc (GO.of_len hl) _ _ (fun j hj => h j (by rw [← len_sl hl] at hj; omega)) k
theorem fwd_get {n : Nat} (us : UsG n) (h1 : 1 ≤ n) {zs : List Cx} {f : Nat → Cx} (hl : zs.length = n) (hf : ∀ j, j < n → zs.getD j z0 = f j) {j : Nat} (hj : j < n) : (fwdG (bOf n) zs).getD j z0 = trM (oOf n) f j := by
 rw [us.fwd zs hl, ← trM_ext us h1 hf]
 simp only [List.getD, List.getElem?_map, List.getElem?_range hj, Option.map_some, Option.getD_some]
 rfl
theorem fwd_LY {n : Nat} (us : UsG n) (h1 : 1 ≤ n) {ys ws : List CB} {f : Nat → Cx} (hz : ws.map cx = fwdG (bOf n) (ys.map cx)) (hy : LY n f ys) : LY n (trM (oOf n) f) ws := by
 have hl : (ys.map cx).length = n := by rw [List.length_map]; exact hy.len
 refine LY.of_map hz ?_ fun j hj => fwd_get us h1 hl (fun i hi => by rw [map_getD]; exact hy.get i hi) hj
 have := congrArg List.length hz
 rw [us.fwd _ hl] at this
 simpa using this
def ivF (n : Nat) (o : Ord) (f : Nat → Cx) (k : Nat) : Cx := overC (conjC (trM o (fun j => conjC (f j)) k)) (n : Int)
theorem inv_LY {n : Nat} (us : UsG n) (h1 : 1 ≤ n) {ys ws : List CB} {f : Nat → Cx} (hz : ws.map cx = invG (bOf n) (ys.map cx)) (hy : LY n f ys) : LY n (ivF n (oOf n) f) ws := by
 have hl : ((ys.map cx).map conjC).length = n := by rw [List.length_map, List.length_map]; exact hy.len
 have hw : (fwdG (bOf n) ((ys.map cx).map conjC)).length = n := by rw [us.fwd _ hl]; simp
 unfold invG at hz
 refine LY.of_map hz ?_ fun j hj => ?_
 ·
  have := congrArg List.length hz
  rw [List.length_map, List.length_map, List.length_map, hw] at this
  exact this
 ·
  have h2 := fwd_get us h1 (f := fun j => conjC (f j)) hl (fun i hi => by
   have hi2 : i < ys.length := by rw [hy.len]; exact hi
   have := hy.get i hi
   simp only [List.getD, List.getElem?_map, List.getElem?_eq_getElem hi2, Option.map_some, Option.getD_some] at this ⊢
   rw [this]) hj
  unfold ivF
  rw [← h2, us.b.ln]
  simp only [List.getD, List.getElem?_map, List.getElem?_eq_getElem (show j < (fwdG (bOf n) ((ys.map cx).map conjC)).length by omega), Option.map_some, Option.getD_some]
theorem two_snoc {os : List Nat} {f : Nat → Cx} {j a b : Nat} (h : ∀ i, i < j → cx (os.getD (2 * i) 0, os.getD (2 * i + 1) 0) = f i) (hl : os.length = 2 * j) (hz : cx (a, b) = f j) : ∀ i, i < j + 1 → cx ((os ++ [a, b]).getD (2 * i) 0, (os ++ [a, b]).getD (2 * i + 1) 0) = f i := by
 intro i hi
 by_cases e : i = j
 ·
  subst e
  have e1 : (os ++ [a, b]).getD (2 * i) 0 = a := by rw [List.getD, List.getElem?_append_right (by omega), hl, Nat.sub_self]; rfl
  have e2 : (os ++ [a, b]).getD (2 * i + 1) 0 = b := by rw [List.getD, List.getElem?_append_right (by omega), hl, show 2 * i + 1 - 2 * i = 1 by omega]; rfl
  rw [e1, e2]; exact hz
 ·
  have e1 : (os ++ [a, b]).getD (2 * i) 0 = os.getD (2 * i) 0 := by rw [List.getD, List.getElem?_append_left (by omega)]; rfl
  have e2 : (os ++ [a, b]).getD (2 * i + 1) 0 = os.getD (2 * i + 1) 0 := by rw [List.getD, List.getElem?_append_left (by omega)]; rfl
  rw [e1, e2]; exact h i (by omega)
theorem dH_of {h n k : Nat} {Z : Nat → Cx} {za zb : CB} (ha : cx za = Z (k % h)) (hb : cx zb = Z ((h - k) % h)) (hn : n = 2 * h) : plusC (timesF (plusC (cx za) (conjC (cx zb))) halv) (twistF (timesF (minusI (lessC (cx za) (conjC (cx zb)))) halv) n k) = fH h Z k := by
 subst hn
 rw [ha, hb]; rfl
section
variable {P : Program} {n : Fr} {k : K} {w : World} {d : Option Tmp} {ty : TypeId} {pos : String} {aft : Array Edge} {g : Option (Nat × Bool)}
theorem Wk.mkF0 {t e : TypeId} {by' : Nat} {x y : Operand} {ql qc : IntKind} {c : Int} (ht : P.underlying t = some (.slice e)) (hi : Inf P e (.float .f64 0) 1 by') (hx : ev k x = some (.int ql 0)) (hy : ev k y = some (.int qc c)) (h0 : 0 ≤ c := by omega) (hb : (by' : Int) * c ≤ 281474976710656 := by omega) (hm : c ≤ 281474976710656 := by omega) :
  Wk P n k w { dst := d, op := .makeSlice t x y, type := ty, pos := pos, after := aft, guard := g }
   (fun v w' => ∃ p, v = .slice (some ⟨p, 0, none⟩) 0 c.toNat ∧ FR e w' (p + 1) (some ⟨p, 0, none⟩) 0 c.toNat [] ∧ Ch No w w' ∧ p = w.heap.size ∧ w'.heap.size = w.heap.size + 1) :=
 (Wk.make ht hi hx hy (Int.le_refl _) h0 hb (by omega)).mono fun v w' ⟨p, hv, N⟩ => by
  rw [Nat.mul_one] at N
  have e1 : (Value.float .f64 0).cells = #[.float .f64 0] := rfl
  rw [e1, made_one] at N
  exact ⟨p, hv, ⟨O, .inr ⟨p, _, O, O, N.blk, Nat.zero_le _, by simp only [maxLen]; omega, by simp, by simp⟩⟩, N.ch, N.p, N.size⟩
end
theorem HalfY.rep (n : Nat) (f : Nat → Cx) : HalfY n 0 (fun _ => z0) f (List.replicate n (0, 0)) := ⟨by simp, fun i hi => by rw [if_neg (Nat.not_lt_zero _)]; simp [List.getD, List.getElem?_replicate, hi]⟩
theorem inf32w106 : Inf prog 32 (.float .f64 0) 1 8 := ⟨Tryz.t32, type32, rfl, rfl, rfl⟩
theorem inf33w106 : Inf prog 33 (.complex .f64 0 0) 1 16 := ⟨Tryz.t33, type33, rfl, rfl, rfl⟩
theorem half_even (a b c d : Nat) (w : World) :
  Calls prog 81 #[.complex .f64 a b, .complex .f64 c d] w (Ret (fun v w' => ∃ p q, v = .complex .f64 p q ∧ cx (p, q) = evC (cx (a, b)) (cx (c, d)) ∧ Ch No w w')) := by
 refine Kt func81 O ntmps81 O (Ka (Wv O O (Wx ?_)))
 refine Wt O O (Wt O O (Oq (Wk.cbin (.inl O) O O) O ?_))
 rintro _ w1 ⟨p1, q1, rfl, F1, c1⟩
 have z1 := c1.size
 refine Oq (Qi κ79 O (cplx_Times _ _ _ _)) O ?_
 rintro _ w2 ⟨p2, q2, rfl, F2, c2⟩
 have z2 := c2.size
 refine Wv O O (Wz (Qo (Qx O O (Kw ?_))))
 have CH_2 := (c1.trans c2)
 exact ⟨_, _, O, (by rw [F2, F1]; rfl), CH_2⟩
theorem half_odd (a b c d : Nat) (w : World) :
  Calls prog 121 #[.complex .f64 a b, .complex .f64 c d] w (Ret (fun v w' => ∃ p q, v = .complex .f64 p q ∧ cx (p, q) = odC (cx (a, b)) (cx (c, d)) ∧ Ch No w w')) := by
 refine Kt func121 O ntmps121 O (Ka (Wv O O (Wx ?_)))
 refine Wt O O (Wt O O (Oq (Wk.cbin (.inr O) O O) O ?_))
 rintro _ w1 ⟨p1, q1, rfl, F1, c1⟩
 have z1 := c1.size
 refine Oq (Qi κ79 O (cplx_Times _ _ _ _)) O ?_
 rintro _ w2 ⟨p2, q2, rfl, F2, c2⟩
 have z2 := c2.size
 refine Wv O O (Wz (Qo (Qx O O (Kw ?_))))
 have CH_2 := (c1.trans c2)
 exact ⟨_, _, O, (by rw [F2, F1]; rfl), CH_2⟩
set_option maxHeartbeats 1000000 in
theorem half_trG0 (SX : Nat → Prop) (X : Option Addr) (n xc : Nat) (ys : List CB) (f : Nat → Cx) (w : World) (sx : SlR SX w X n 1 (ys.map cxV)) (hX : ∀ q, SX q → q < w.heap.size) (hy : LY n f ys) (hn : 1 ≤ n ∧ n ≤ 4096) (st : StT w) (tab : TabB w.heap.size w) (hG : 24 ≤ w.heap.size) :
  Calls prog 77 #[.slice X n xc, .bool false] w (Ret (fun v w' => ∃ r A k zs, v = .tuple #[.slice A n k, .nilIface] ∧ CR 33 w' r A n k zs ∧ LY n (trM (oOf n) f) zs ∧ UsG n ∧ w.heap.size < r ∧ Ch No w w')) := by
 refine Kt func77 O ntmps77 O (Ka (Wv O O (Wv O O (Wy ?_))))
 refine Qb (Wt O O (Om (Cr υ31 O) O (Oq (Qi call13 O (plan_NewG n (by omega) (by omega) _ st ((tab).up (by omega)) (by omega))) O ?_)))
 rintro _ w1 ⟨pp, PP, rfl, pl1, hpb, us, c1⟩
 have z1 := c1.size
 refine Wt O O (Om (Qw O O) O (Om (Qw O O) O (Wv O O (Wv O O (Wy ?_)))))
 refine Ka (Wt O O (Om (Cs υ28 O) O (Wz (Cc O (Qm ?_)))))
 refine Qa (Qe (Ka (Wt O O (Wz (Cc O ?_)))))
 refine Qm (Qa (Ka (Wt O O (Wt O O ?_))))
 have sx_1 := sx.keep c1
 have st_1 := st.keep c1
 refine Oq (Qi call15 O (p_ForwardN _ _ _ _ _ _ n _ ys _ sx_1 (fun q hq => by have := hX q hq; omega) pl1 (by omega) hpb us st_1 (by omega))) O ?_
 rintro _ w2 ⟨r2, A2, k2, ws, rfl, out2, hz, yo2, c2⟩
 have hlo := Ow.lt out2
 have z2 := c2.size
 refine Om (Qw O O) O (Om (Qw O O) O (Wv O O (Wv O O (Wz (Qo (Cz O O O ?_))))))
 refine Kw ?_
 have CH_2 := (c1.trans c2)
 exact ⟨_, _, _, ws, O, out2, fwd_LY us hn.1 hz hy, us, by omega, CH_2⟩
set_option maxHeartbeats 1000000 in
theorem half_trG1 (SX : Nat → Prop) (X : Option Addr) (n xc : Nat) (ys : List CB) (f : Nat → Cx) (w : World) (sx : SlR SX w X n 1 (ys.map cxV)) (hX : ∀ q, SX q → q < w.heap.size) (hy : LY n f ys) (hn : 1 ≤ n ∧ n ≤ 4096) (st : StT w) (tab : TabB w.heap.size w) (hG : 24 ≤ w.heap.size) :
  Calls prog 77 #[.slice X n xc, .bool true] w (Ret (fun v w' => ∃ r A k zs, v = .tuple #[.slice A n k, .nilIface] ∧ CR 33 w' r A n k zs ∧ LY n (ivF n (oOf n) f) zs ∧ UsG n ∧ w.heap.size < r ∧ Ch No w w')) := by
 refine Kt func77 O ntmps77 O (Ka (Wv O O (Wv O O (Wy ?_))))
 refine Qb (Wt O O (Om (Cr υ31 O) O (Oq (Qi call13 O (plan_NewG n (by omega) (by omega) _ st ((tab).up (by omega)) (by omega))) O ?_)))
 rintro _ w1 ⟨pp, PP, rfl, pl1, hpb, us, c1⟩
 have z1 := c1.size
 refine Wt O O (Om (Qw O O) O (Om (Qw O O) O (Wv O O (Wv O O (Wy ?_)))))
 refine Ka (Wt O O (Om (Cs υ28 O) O (Wz (Cc O (Qm ?_)))))
 refine Qa (Qe (Ka (Wt O O (Wz (Rd O ?_)))))
 refine Ka (Wt O O (Wt O O ?_))
 have sx_1 := sx.keep c1
 have st_1 := st.keep c1
 refine Oq (Qi call16 O (p_InverseN _ _ _ _ _ _ n _ ys _ sx_1 (fun q hq => by have := hX q hq; omega) pl1 (by omega) hpb us st_1 (by omega))) O ?_
 rintro _ w2 ⟨r2, A2, k2, ws, rfl, out2, hz, yo2, c2⟩
 have hlo := Ow.lt out2
 have z2 := c2.size
 refine Om (Qw O O) O (Om (Qw O O) O (Wv O O (Wv O O (Wz (Qo (Qu ?_))))))
 refine Cz O O O (Kw ?_)
 have CH_2 := (c1.trans c2)
 exact ⟨_, _, _, ws, O, out2, inv_LY us hn.1 hz hy, us, by omega, CH_2⟩
theorem half_ForwardA (SX : Nat → Prop) (X : Option Addr) (n xc : Nat) (xs : List Nat) (w : World) (sx : SlR SX w X n 1 (xs.map flV)) (hX : ∀ q, SX q → q < w.heap.size) (h1 : n = 1) (st : StT w) (tab : TabB w.heap.size w) (hG : 24 ≤ w.heap.size) :
  Calls prog 37 #[.slice X n xc] w (Ret (fun v w' => ∃ q zs, v = .tuple #[.slice (Kh q) (n / 2 + 1) (n / 2 + 1), .nilIface] ∧ CR 33 w' (q + 1) (Kh q) (n / 2 + 1) (n / 2 + 1) zs ∧ LY (n / 2 + 1) (hF n (XF xs)) zs ∧ w.heap.size ≤ q ∧ Ch No w w')) := by
 refine Kt func37 O ntmps37 O (Ka (Wv O O (Wv O O (Wy ?_))))
 refine Qb (Wt O O (Om (Cr υ24 O) O (Wv O O (Wy (Qe ?_)))))
 refine Qb (Wt O O (Om (Cf O O) O (Wz (Qj O (fun hc1 => ?_) (fun hc1 => ?_)))))
 ·
  refine Ka (Wt O O (Om (Qs υ24 ς32 O O (sx.ne (by omega))) O (Om (Qg ι32 O (sx.getF (by omega))) O (Om (Rf O O) O (Ko 1 1 (Kk υ31 inf33w106 O O) O ?_)))))
  intro p1 w1 l25 l25o c1 e1 z1
  refine Wv O O (Wv O O (Wz (Qo (Qu (Cz O O O (Kw ?_))))))
  have h2 : n / 2 + 1 = 1 := by omega
  have hl : LY (n / 2 + 1) (hF n (XF xs)) [(xs.getD 0 0, 0)] := ⟨h2.symm, fun k hk => by obtain rfl : k = 0 := (by omega); show _ = hF n (XF xs) 0; unfold hF; rw [if_pos h1]; rfl⟩
  have CH_1 := c1
  refine ⟨p1, [(xs.getD 0 0, 0)], ?_, ?_, hl, by omega, CH_1⟩
  rw [h2]
  rw [h2]; exact l25o
 omega
set_option maxHeartbeats 2000000 in
theorem half_ForwardB (SX : Nat → Prop) (X : Option Addr) (n xc : Nat) (xs : List Nat) (w : World) (sx : SlR SX w X n 1 (xs.map flV)) (hX : ∀ q, SX q → q < w.heap.size)  (h : Nat) (hn2 : n = 2 * h) (hh : 1 ≤ h) (hh2 : h ≤ 2048) (st : StT w) (tab : TabB w.heap.size w) (hG : 24 ≤ w.heap.size) :
  Calls prog 37 #[.slice X n xc] w (Ret (fun v w' => ∃ q zs, v = .tuple #[.slice (Kh q) (n / 2 + 1) (n / 2 + 1), .nilIface] ∧ CR 33 w' (q + 1) (Kh q) (n / 2 + 1) (n / 2 + 1) zs ∧ LY (n / 2 + 1) (hF n (XF xs)) zs ∧ w.heap.size ≤ q ∧ Ch No w w')) := by
 have hxl : xs.length = n := by have := sx.len; simpa using this
 have hd2 : n / 2 = h := by omega
 refine Kt func37 O ntmps37 O (Ka (Wv O O (Wv O O (Wy ?_))))
 refine Qb (Wt O O (Om (Cr υ24 O) O (Wv O O (Wy (Qe ?_)))))
 refine Qb (Wt O O (Om (Cf O O) O (Wz (Qj O (fun hc1 => ?_) (fun hc1 => ?_)))))
 · omega
 refine Qm (Qa (Qe (Ka (Wt O O (Om (Cf O O) O (Wt O O ?_))))))
 refine Ra (b := _) 4 28 32 O (fun hc2 Jhc2 => by
   refine Oy O (Oy O (Oy O (Om (Qq O O) O ?_)))
   exact (Qp O (Qp O (Qp O Jhc2)))) (fun hc2 Jhc2 => by
   try simp only [bX] at hc2
   refine Wt O O (Om (Rm O O) O (Om (Wg O O) O (Om (Qn O O) O ?_)))
   exact (Qp O (Qp O (Qp O Jhc2)))) ?_
 refine Wt O O ?_
 refine Ra (b := _) 3 33 36 O (fun hc3 Jhc3 => by
   refine Oy O (Oy O (Om (Qq O O) O ?_))
   exact (Qp O (Qp O Jhc3))) (fun hc3 Jhc3 => by
   try simp only [bX] at hc3
   refine Wt O O (Om (Rb O O) O (Om (Qn O O) O ?_))
   exact (Qp O (Qp O Jhc3))) ?_
 refine Wz (Cq O (fun hc4 => ?_) (fun hc4 => ?_))
 ·
  try simp only [bX] at hc4
  omega
 try simp only [bX] at hc4
 refine Qm (Qa (Ka (Wt O O (Om (Rn.castJ (show (n : Int) / 2 = (h : Int) by omega) (Rz O O (by omega) (by omega) (by omega))) O (Wv O O (Qf ?_))))))
 refine Qa (Ka (Wt O O (Oq (Wk.mkC υ31 inf33w106 O O (by omega) (by omega) (by omega)) O ?_)))
 rintro _ w1 ⟨p1, rfl, o1, c1, e1, z1⟩
 refine Wv O O (Wy (Ka (Wt O O (Om (Cr υ31 O) O ?_))))
 refine Wt O O (Wz (Qt ?_))
 have sx_1 := sx.keep c1
 have st_1 := st.keep c1
 have tab_1 := tab.keep c1
 have CH_1 := c1
 refine Ke (σ := Nat × List CB) (fun (j, us) => [(0, .slice X n xc), (4, Kf n), (5, Kf h), (6, .slice (Kh p1) h h), (43, Kf h), (44, Kf j)]) (fun (j, us) w' => j ≤ h ∧ HalfY h j (fun _ => z0) (prF (XF xs)) us ∧ w1.heap.size ≤ w'.heap.size ∧ CR 33 w' ((p1 + 1)) (Kh p1) h h us ∧ SlR SX w' X n 1 (xs.map flV) ∧ StT w' ∧ TabB w.heap.size w' ∧ Ch (No) w w') (fun (j, us) => h - j) (0, List.replicate h (0, 0)) ?_ ?_
 · exact ⟨(by omega), (HalfY.rep _ _), (Nat.le_refl _), o1, sx_1, st_1, tab_1, CH_1⟩
 rintro ⟨j, us⟩ w2 ⟨hj, hhu, hsz2, row_2, sx_2, st_2, tab_2, CH_2⟩
 refine Ka (Om (Co O O) O (Wy (Qj O (fun hc5 => ?_) (fun hc5 => ?_))))
 ·
  refine Qm (Qa (Qe (Qt (Ka (Wt O O (Wv O O ?_))))))
  refine Wz (Ki 15 [0, 2, 4, 6, 8, 10, 12, 14, 16, 18, 20, 22, 24, 26, 28] (At (p1 + 1)) ?_)
  intro w3 c3 z3
  have sx_3 := sx_2.keep c3
  have row_3 := row_2.keep c3
  refine Wu O O (Wu O O (Wu O O (Wu O O ?_)))
  refine Wq (Cw O O) O ?_
  refine Ws (fun hS => Qs υ24 ς32 O O ((sx_3.to hS (by first | exact fun _ _ _ _ => id | (intro q h1 h2 hx h3; have := hX q h2; omega))).ne (by omega))) O ?_
  refine Ws (fun hS => Qg ι32 O ((sx_3.to hS (by first | exact fun _ _ _ _ => id | (intro q h1 h2 hx h3; have := hX q h2; omega))).getF (by omega))) O ?_
  refine Wu O O (Wu O O ?_)
  refine Wq (Cw O O) O ?_
  refine Wq (Cd O O) O ?_
  refine Ws (fun hS => Qs υ24 ς32 O O ((sx_3.to hS (by first | exact fun _ _ _ _ => id | (intro q h1 h2 hx h3; have := hX q h2; omega))).ne (by omega))) O ?_
  refine Ws (fun hS => Qg ι32 O ((sx_3.to hS (by first | exact fun _ _ _ _ => id | (intro q h1 h2 hx h3; have := hX q h2; omega))).getF (by omega))) O ?_
  refine Wq (Rf O O) O (Wq (Qs υ31 ς33 O O (row_3.sl.ne (by omega))) O (Ck (Oz (Rk ς33 O O (by omega) row_3) O ?_)))
  rintro _ w4 ⟨o4, c4, z4⟩
  have y4 := o4.lt
  refine Qf (Ca (Ql (Qa (Qb ?_))))
  refine Om (Cd O O) O ?_
  refine Wt O O (Qf ?_)
  refine Kd (j + 1, us.set j (xs.getD (2 * j) 0, xs.getD (2 * j + 1) 0)) ?_
  have sx_4 := sx_3.to c4 (by first | exact fun _ _ _ _ => id | (intro q h1 h2 hx h3; have := hX q h2; omega))
  have st_3 := st_2.keep c3
  have st_4 := st_3.to c4
  have tab_3 := tab_2.keep c3
  have tab_4 := tab_3.to c4
  have CH_3 := CH_2.and c3
  have CH_4 : Ch (No) w w4 := CH_3.then c4
  exact ⟨(by omega), (hhu.step (by omega) O), (by omega), (by have h9 := o4; rw [show (2 * (j : Int)).toNat = 2 * j by omega, show (2 * (j : Int) + 1).toNat = 2 * j + 1 by omega] at h9; exact h9), sx_4, st_4, tab_4, CH_4⟩
 refine Cn (Qk (Qk (Qz (Qa (Qe ?_)))))
 obtain rfl : h = j := by omega
 have hy0 := hhu.all
 refine Qb (Wt O O (Oq (Qi call77 O (half_trG0 _ _ h _ us (prF (XF xs)) _ (row_2).sl (fun q hq => by omega) hy0 (by omega) st_2 ((tab_2).up (by omega)) (by omega))) O ?_))
 rintro _ w5 ⟨rT, AT, kT, ts, rfl, tz5, hts, us, yt5, c5⟩
 have htl := hts.len; have ytl5 := Ow.lt tz5
 have z5 := c5.size
 refine Wt O O (Om (Qw O O) O (Om (Qw O O) O (Wv O O (Wv O O (Wy ?_)))))
 refine Ka (Wt O O (Om (Cs υ28 O) O (Wz (Cc O (Qm ?_)))))
 refine Qa (Ka (Wt O O ?_))
 refine Om (Rn.castJ (show (h : Int) + 1 = ((h + 1 : Nat) : Int) by omega) (Cd O O)) O ?_
 refine Oq (Wk.mkC υ31 inf33w106 O O (by omega) (by omega) (by omega)) O ?_
 rintro _ w6 ⟨p6, rfl, o6, c6, e6, z6⟩
 refine Wv O O (Wy (Ka (Wt O O (Om (Cr υ31 O) O ?_))))
 refine Wt O O (Wz (Qt ?_))
 have tz_6 := tz5.keep c6
 have CH_6 := CH_2.and (c5.trans c6)
 refine Ke (σ := Nat × List CB) (fun (k, os) => [(4, Kf n), (5, Kf h), (8, .slice AT h kT), (10, .slice (Kh p6) (h + 1) (h + 1)), (75, Kf (h + 1 : Nat)), (76, Kf k)]) (fun (k, os) w' => k ≤ h + 1 ∧ HalfY (h + 1) k (fun _ => z0) (fH h (trM (oOf h) (prF (XF xs)))) os ∧ w6.heap.size ≤ w'.heap.size ∧ CR 33 w' rT AT h kT ts ∧ CR 33 w' ((p6 + 1)) (Kh p6) (h + 1) (h + 1) os ∧ Ch (No) w w') (fun (k, os) => h + 1 - k) (0, List.replicate (h + 1) (0, 0)) ?_ ?_
 · exact ⟨(by omega), (HalfY.rep _ _), (Nat.le_refl _), tz_6, o6, CH_6⟩
 rintro ⟨k, os⟩ w7 ⟨hk, ho, hsz7, tz_7, ou_7, CH_7⟩
 have em1 : (k : Int) % (h : Int) = ((k % h : Nat) : Int) := rfl
 have hm1 := Nat.mod_lt k (show 0 < h by omega)
 have em2 : k < h + 1 → ((h : Int) - (k : Int)) % (h : Int) = (((h - k) % h : Nat) : Int) := fun h9 => by rw [← Int.ofNat_sub (by omega)]; rfl
 have hm2 := Nat.mod_lt (h - k) (show 0 < h by omega)
 refine Ka (Om (Co O O) O (Wy (Qj O (fun hc6 => ?_) (fun hc6 => ?_))))
 ·
  refine Qm (Qa (Qe (Qt (Ka (Wt O O (Wv O O ?_))))))
  refine Wy (Ki 16 [0, 2, 4, 6, 8, 10, 12, 14, 16, 18, 20, 22, 24, 26, 29, 30] (No) ?_)
  intro w8 c8 z8
  have tz_8 := tz_7.keep c8
  have ou_8 := ou_7.keep c8
  refine Wu O O (Wu O O (Wu O O (Wq (Rm O O) O (Wq (Qs υ31 ς33 O O (tz_8.sl.ne (by omega))) O (Ws (fun hS => Qg ι33 O ((tz_8.keep hS).sl.getC (by omega) (by omega))) O (Wu O O (Wu O O ?_)))))))
  refine Wu O O ?_
  refine Wq (Rg O O) O ?_
  refine Wu O O (Wq (Rm O O) O (Wq (Qs υ31 ς33 O O (tz_8.sl.ne (by omega))) O (Ws (fun hS => Qg ι33 O ((tz_8.keep hS).sl.getC (by omega) (by omega))) O (Hq (Qi κ78 O (cplx_Conj _ _ _)) O ?_))))
  rintro _ w9 ⟨p9, q9, rfl, F9, c9⟩
  have z9 := c9.size
  have RD_9 := (Ch.refl (No) w8).and c9
  refine ⟨RD_9, ?_⟩
  refine Ww O O (Ck (Wv O O (Qf (Ca (Qa (Ka ?_))))))
  refine Wt O O (Wt O O (Oq (Wk.cbin (.inr O) O O) O ?_))
  rintro _ w10 ⟨p10, q10, rfl, F10, c10⟩
  have z10 := c10.size
  refine Oq (Qi κ80 O (cplx_MinusI _ _ _)) O ?_
  rintro _ w11 ⟨p11, q11, rfl, F11, c11⟩
  have z11 := c11.size
  refine Oq (Qi κ79 O (cplx_Times _ _ _ _)) O ?_
  rintro _ w12 ⟨p12, q12, rfl, F12, c12⟩
  have z12 := c12.size
  refine Wv O O (Wy ?_)
  have hq9 : (k : Int) % (n : Int) = (k : Int) := Int.emod_eq_of_lt (by omega) (by omega)
  refine Qb (Wt O O (Wt O O (Wt O O (Oq (Qi call14 O (roots_Twist _ _ n (k : Int) k (by omega) (by omega) ⟨by omega, by omega⟩ hq9 _)) O ?_))))
  rintro _ w13 ⟨x13, y13, rfl, F13, c13⟩
  have z13 := c13.size
  refine Wt O O (Om (Qw O O) O (Om (Qw O O) O (Wv O O (Wv O O (Wy ?_)))))
  refine Ka (Wt O O (Om (Cs υ28 O) O (Wz (Cc O (Qm ?_)))))
  refine Qa (Qb (Wt O O (Wt O O (Wt O O (Wt O O (Oq (Qi call81 O (half_even _ _ _ _ _)) O ?_))))))
  rintro _ w14 ⟨p14, q14, rfl, F14, c14⟩
  have z14 := c14.size
  refine Wt O O (Oq (Wk.cbin (.inl O) O O) O ?_)
  rintro _ w15 ⟨p15, q15, rfl, F15, c15⟩
  have z15 := c15.size
  have ou_15 := ou_8.keep (c9.trans (c10.trans (c11.trans (c12.trans (c13.trans (c14.trans c15))))))
  refine Om (Qs υ31 ς33 O O (ou_15.sl.ne (by omega))) O (Oz (Rk ς33 O O (by omega) ou_15) O ?_)
  rintro _ w16 ⟨o16, c16, z16⟩
  have y16 := o16.lt
  refine Qf (Ql (Qa (Qb ?_)))
  refine Om (Cd O O) O ?_
  refine Wt O O (Qf ?_)
  refine Kd (k + 1, os.set k (p15, q15)) ?_
  have tz_15 := tz_8.keep (c9.trans (c10.trans (c11.trans (c12.trans (c13.trans (c14.trans c15))))))
  have tz_16 := tz_15.to c16
  have CH_15 := CH_7.and (c8.trans (c9.trans (c10.trans (c11.trans (c12.trans (c13.trans (c14.trans c15)))))))
  have CH_16 : Ch (No) w w16 := CH_15.then c16
  exact ⟨(by omega), (ho.step (by omega) (by rw [show cx (p15, q15) = fH h (trM (oOf h) (prF (XF xs))) k from fH_of (za := ts.getD ((k : Int) % (h : Int)).toNat (0, 0)) (zb := ts.getD (((h : Int) - (k : Int)) % (h : Int)).toNat (0, 0)) (by rw [em1, Int.toNat_natCast]; exact hts.get _ hm1) (by rw [em2 (by omega), Int.toNat_natCast]; exact hts.get _ hm2) F9 F10 F11 F12 F13 F14 F15 hn2])), (by omega), tz_16, o16, CH_16⟩
 refine Cn (Qk (Qk (Qz (Qa (Ka (Wt O O ?_))))))
 refine Wv O O (Wv O O (Wz (Qo (Cz O O O (Kw ?_)))))
 obtain rfl : k = h + 1 := by omega
 refine ⟨p6, os, ?_, ?_, ?_, by omega, CH_7⟩
 rw [hd2]
 rw [hd2]; exact ou_7
 rw [hd2]; exact ho.all.cast fun i _ => by unfold hF; rw [if_neg (by omega), hd2]
set_option maxHeartbeats 2000000 in
theorem half_Inv3 (SX : Nat → Prop) (X : Option Addr) (xc : Nat) (zs : List CB) (w : World) (sx : SlR SX w X 3 1 (zs.map cxV)) (hX : ∀ q, SX q → q < w.heap.size) (st : StT w) (tab : TabB w.heap.size w) (hG : 24 ≤ w.heap.size) :
  Calls prog 74 #[.slice X 3 xc] w (Ret (fun v w' => ∃ r A k os, v = .tuple #[.slice A 4 k, .nilIface] ∧ FR 32 w' r A 4 k os ∧ (∀ j, j < 2 → cx (os.getD (2 * j) 0, os.getD (2 * j + 1) 0) = ivF 2 (oOf 2) (iZ 2 (fun j => cx (zs.getD j (0, 0)))) j) ∧ UsG 2 ∧ w.heap.size < r ∧ Ch No w w')) := by
 refine Kt func74 O ntmps74 O (Ka (Wv O O (Wv O O (Wy ?_))))
 refine Qb (Wt O O (Om (Cr υ31 O) O ?_))
 refine Om (Rg O O) O ?_
 refine Wv O O (Wy (Ka (Wt O O (Om (Co O O) O ?_))))
 refine Wt O O ?_
 refine Ra (b := _) 3 20 23 O (fun hc1 Jhc1 => by
   refine Oy O (Oy O (Om (Qq O O) O ?_))
   exact (Qp O (Qp O Jhc1))) (fun hc1 Jhc1 => by
   try simp only [bX] at hc1
   refine Wt O O (Om (Rb O O) O (Om (Qn O O) O ?_))
   exact (Qp O (Qp O Jhc1))) ?_
 refine Wz (Cq O (fun hc2 => ?_) (fun hc2 => ?_))
 ·
  try simp only [bX] at hc2
  omega
 try simp only [bX] at hc2
 refine Qm (Qa (Qe (Ka (Wt O O (Om (Cf O O) O (Qf ?_))))))
 refine Qa (Qj O (fun hc3 => ?_) (fun hc3 => ?_))
 · omega
 refine Qm (Qa (Ka (Wt O O (Oq (Wk.mkC υ31 inf33w106 O O (by omega) (by omega) (by omega)) O ?_))))
 rintro _ w1 ⟨p1, rfl, o1, c1, e1, z1⟩
 refine Wv O O (Wy (Ka (Wt O O (Om (Cr υ31 O) O ?_))))
 refine Wt O O (Wz (Qt ?_))
 have sx_1 := sx.keep c1
 have st_1 := st.keep c1
 have tab_1 := tab.keep c1
 have CH_1 := c1
 refine Ke (σ := Nat × List CB) (fun (k, zz) => [(0, .slice X 3 xc), (4, Kf 2), (5, .slice (Kh p1) 2 2), (35, Kf 2), (36, Kf k)]) (fun (k, zz) w' => k ≤ 2 ∧ HalfY 2 k (fun _ => z0) (iZ 2 (fun j => cx (zs.getD j (0, 0)))) zz ∧ w1.heap.size ≤ w'.heap.size ∧ CR 33 w' ((p1 + 1)) (Kh p1) 2 2 zz ∧ SlR SX w' X 3 1 (zs.map cxV) ∧ StT w' ∧ TabB w.heap.size w' ∧ Ch (No) w w') (fun (k, zz) => 2 - k) (0, List.replicate 2 (0, 0)) ?_ ?_
 · exact ⟨(by omega), (HalfY.rep _ _), (Nat.le_refl _), o1, sx_1, st_1, tab_1, CH_1⟩
 rintro ⟨k, zz⟩ w2 ⟨hk, ho, hsz2, row_2, sx_2, st_2, tab_2, CH_2⟩
 have e1 : ((k : Int)).toNat = k := by omega
 have e2 : k ≤ 2 → (2 - (k : Int)).toNat = 2 - k := fun _ => by omega
 refine Ka (Om (Co O O) O (Wy (Qj O (fun hc4 => ?_) (fun hc4 => ?_))))
 ·
  refine Qm (Qa (Qe (Qt (Ka (Wt O O (Wv O O ?_))))))
  refine Wy (Ki 12 [0, 2, 4, 6, 8, 10, 12, 14, 16, 18, 21, 22] (No) ?_)
  intro w3 c3 z3
  have sx_3 := sx_2.keep c3
  have row_3 := row_2.keep c3
  refine Wu O O (Wu O O (Ws (fun hS => Qs υ31 ς33 O O ((sx_3.keep hS).ne (by omega))) O (Ws (fun hS => Qg ι33 O ((sx_3.keep hS).getC (by omega) (by omega))) O (Wu O O (Wu O O (Wu O O ?_))))))
  refine Wq (Rg O O) O ?_
  refine Ws (fun hS => Qs υ31 ς33 O O ((sx_3.keep hS).ne (by omega))) O (Ws (fun hS => Qg ι33 O ((sx_3.keep hS).getC (by omega) (by omega))) O (Hq (Qi κ78 O (cplx_Conj _ _ _)) O ?_))
  rintro _ w4 ⟨p4, q4, rfl, F4, c4⟩
  have z4 := c4.size
  have RD_4 := (Ch.refl (No) w3).and c4
  refine ⟨RD_4, ?_⟩
  refine Ww O O (Ck (Wv O O (Qf (Ca (Qa (Ka ?_))))))
  refine Wt O O (Wt O O (Oq (Qi call121 O (half_odd _ _ _ _ _)) O ?_))
  rintro _ w5 ⟨p5, q5, rfl, F5, c5⟩
  have z5 := c5.size
  refine Wt O O ?_
  refine Om (Cw O O) O ?_
  refine Wt O O ?_
  refine Om (Rn.neg O (by rw [IntKind.wrap_i64]; omega)) O ?_
  refine Oq (Qi call14 O (roots_Twist _ _ 4 (-(k : Int)) ((4 - k) % 4) (by omega) (by omega) ⟨by omega, by omega⟩ (by omega) _)) O ?_
  rintro _ w6 ⟨x6, y6, rfl, F6, c6⟩
  have z6 := c6.size
  refine Wt O O (Om (Qw O O) O (Om (Qw O O) O (Wv O O (Wv O O (Wy ?_)))))
  refine Ka (Wt O O (Om (Cs υ28 O) O (Wz (Cc O (Qm ?_)))))
  refine Qa (Qb (Wt O O (Wt O O (Wt O O (Wt O O (Oq (Qi call81 O (half_even _ _ _ _ _)) O ?_))))))
  rintro _ w7 ⟨p7, q7, rfl, F7, c7⟩
  have z7 := c7.size
  refine Wt O O (Oq (Qi κ122 O (cplx_TimesI _ _ _)) O ?_)
  rintro _ w8 ⟨p8, q8, rfl, F8, c8⟩
  have z8 := c8.size
  refine Oq (Wk.cbin (.inl O) O O) O ?_
  rintro _ w9 ⟨p9, q9, rfl, F9, c9⟩
  have z9 := c9.size
  have row_9 := row_3.keep (c4.trans (c5.trans (c6.trans (c7.trans (c8.trans c9)))))
  refine Om (Qs υ31 ς33 O O (row_9.sl.ne (by omega))) O (Oz (Rk ς33 O O (by omega) row_9) O ?_)
  rintro _ w10 ⟨o10, c10, z10⟩
  have y10 := o10.lt
  refine Qf (Ql (Qa (Qb ?_)))
  refine Om (Cd O O) O ?_
  refine Wt O O (Qf ?_)
  refine Kd (k + 1, zz.set k (p9, q9)) ?_
  have sx_9 := sx_3.keep (c4.trans (c5.trans (c6.trans (c7.trans (c8.trans c9)))))
  have sx_10 := sx_9.to c10 (by first | exact fun _ _ _ _ => id | (intro q h1 h2 hx h3; have := hX q h2; omega))
  have st_9 := st_2.keep (c3.trans (c4.trans (c5.trans (c6.trans (c7.trans (c8.trans c9))))))
  have st_10 := st_9.to c10
  have tab_9 := tab_2.keep (c3.trans (c4.trans (c5.trans (c6.trans (c7.trans (c8.trans c9))))))
  have tab_10 := tab_9.to c10
  have CH_9 := CH_2.and (c3.trans (c4.trans (c5.trans (c6.trans (c7.trans (c8.trans c9))))))
  have CH_10 : Ch (No) w w10 := CH_9.then c10
  exact ⟨(by omega), (ho.step (by omega) (by rw [show cx (p9, q9) = iZ 2 (fun j => cx (zs.getD j (0, 0))) k from (iZ_of (za := zs.getD (k : Int).toNat (0, 0)) (zb := zs.getD (2 - (k : Int)).toNat (0, 0)) (by rw [e1]) (by rw [e2 (by omega)]) F4 F5 F6 F7 F8 F9 O O)])), (by omega), o10, sx_10, st_10, tab_10, CH_10⟩
 refine Cn (Qk (Qk (Qz (Qa (Qe ?_)))))
 obtain rfl : k = 2 := by omega
 have hy0 := ho.all
 refine Qb (Wt O O (Oq (Qi call77 O (half_trG1 _ _ 2 _ zz (iZ 2 (fun j => cx (zs.getD j (0, 0)))) _ (row_2).sl (fun q hq => by omega) hy0 (by omega) st_2 ((tab_2).up (by omega)) (by omega))) O ?_))
 rintro _ w11 ⟨rT, AT, kT, ts, rfl, tz11, hts, us, yt11, c11⟩
 have htl := hts.len; have ytl11 := Ow.lt tz11
 have z11 := c11.size
 refine Wt O O (Om (Qw O O) O (Om (Qw O O) O (Wv O O (Wv O O (Wy ?_)))))
 refine Ka (Wt O O (Om (Cs υ28 O) O (Wz (Cc O (Qm ?_)))))
 refine Qa (Ka (Wt O O ?_))
 refine Om (Cw O O) O ?_
 refine Oq (Wk.mkF0 υ24 inf32w106 O O) O ?_
 rintro _ w12 ⟨p12, rfl, o12, c12, e12, z12⟩
 have z12 := c12.size
 refine Wv O O (Wy (Ka (Wt O O (Om (Cr υ31 O) O ?_))))
 refine Wt O O (Wz (Qt ?_))
 have tz_12 := tz11.keep c12
 have CH_12 := CH_2.and (c11.trans c12)
 refine Ke (σ := Nat × List Nat × Nat × Option Addr × Nat) (fun (j, os, r2, A2, c2) => [(12, .slice A2 (2 * j) c2), (85, .slice AT 2 kT), (86, Kf 2), (87, Kf j)]) (fun (j, os, r2, A2, c2) w' => j ≤ 2 ∧ os.length = 2 * j ∧ (∀ i, i < j → cx (os.getD (2 * i) 0, os.getD (2 * i + 1) 0) = ivF 2 (oOf 2) (iZ 2 (fun j => cx (zs.getD j (0, 0)))) i) ∧ w.heap.size < r2 ∧ rT < r2 ∧ w12.heap.size ≤ w'.heap.size ∧ FR 32 w' r2 A2 (2 * j) c2 os ∧ CR 33 w' rT AT 2 kT ts ∧ Ch (No) w w') (fun (j, os, r2, A2, c2) => 2 - j) (0, [], (p12 + 1), (Kh p12), 4) ?_ ?_
 · exact ⟨(by omega), O, (fun i h => absurd h (by omega)), (by omega), (by omega), (Nat.le_refl _), o12, tz_12, CH_12⟩
 rintro ⟨j, os, r2, A2, c2⟩ w13 ⟨hj, hol, ho, hr2, hr3, hsz13, rof_13, tz_13, CH_13⟩
 refine Ka (Om (Co O O) O (Wy (Qj O (fun hc5 => ?_) (fun hc5 => ?_))))
 ·
  refine Qm (Qa (Qe (Qt (Ka (Om (Qs υ31 ς33 O O (tz_13.sl.ne (by omega))) O (Om (Qg ι33 O (tz_13.sl.getC (by omega) (by omega))) O ?_))))))
  refine Wv O O (Wz (Qb (Wt O O (Wt O O (Om (Rh O) O (Wt O O ?_))))))
  refine Om (Ri O) O (Ko 1 2 (Kk υ24 inf32w106 O O) O ?_)
  intro p14 w14 l96 l96o c14 e14 z14
  have rof_14 := rof_13.keep c14
  refine Oq (Cl (S := _) υ24 inf32w106 O (by decide) O O rof_14 l96 (by rfl) (fun h => by simp at h) (by omega) (by simp only [maxLen]; omega)) O ?_
  rintro _ w15 ⟨r15, A15, k15, rfl, o15, c15, q15⟩
  have z15 := c15.size
  have y15 := o15.lt
  refine Wv O O (Qf (Ql (Qa (Qb ?_))))
  refine Om (Cd O O) O ?_
  refine Wt O O (Qf ?_)
  refine Kd (j + 1, os ++ [(ts.getD (j : Int).toNat (0, 0)).1, (ts.getD (j : Int).toNat (0, 0)).2], r15, A15, k15) ?_
  have tz_14 := tz_13.keep c14
  have tz_15 := tz_14.to c15
  have CH_14 := CH_13.and c14
  have CH_15 : Ch (No) w w15 := CH_14.then c15
  exact ⟨(by omega), (by simp [hol]; omega), (two_snoc ho hol (hts.get j (by omega))), (by omega), (by omega), (by omega), (by have h9 := o15; show Ow _ _ _ _ _ _ _ _; rw [List.map_append]; exact h9), tz_15, CH_15⟩
 refine Cn (Qk (Qk (Qz (Qa (Ka (Wt O O ?_))))))
 refine Wv O O (Wv O O (Wz (Qo (Cz O O O (Kw ?_)))))
 obtain rfl : j = 2 := by omega
 exact ⟨_, _, _, os, O, rof_13, ho, us, hr2, CH_13⟩
theorem ref22_plus (a b c d : Nat) (w : World) :
  Calls prog 85 #[.complex .f64 a b, .complex .f64 c d] w (Ret (fun v w' => ∃ p q, v = .complex .f64 p q ∧ cx (p, q) = plusC (cx (a, b)) (cx (c, d)) ∧ Ch No w w')) := by
 refine Kt func85 O ntmps85 O (Ka (Wv O O (Wx ?_)))
 refine Wt O O (Om (Rh O) O (Wt O O (Om (Rh O) O (Oq (Cy (.inl O) O O) O ?_))))
 rintro _ w1 ⟨r1, rfl, f1, c1⟩
 have z1 := c1.size
 refine Wt O O (Om (Ri O) O (Wt O O (Om (Ri O) O (Oq (Cy (.inl O) O O) O ?_))))
 rintro _ w2 ⟨r2, rfl, f2, c2⟩
 have z2 := c2.size
 refine Om (Rf O O) O (Wv O O (Wz (Qo (Qx O O (Kw ?_)))))
 have CH_2 := (c1.trans c2)
 exact ⟨_, _, O, (by show (cn _, cn _) = _; rw [f1, f2]; rfl), CH_2⟩
theorem ref22_less (a b c d : Nat) (w : World) :
  Calls prog 87 #[.complex .f64 a b, .complex .f64 c d] w (Ret (fun v w' => ∃ p q, v = .complex .f64 p q ∧ cx (p, q) = lessC (cx (a, b)) (cx (c, d)) ∧ Ch No w w')) := by
 refine Kt func87 O ntmps87 O (Ka (Wv O O (Wx ?_)))
 refine Wt O O (Om (Rh O) O (Wt O O (Om (Rh O) O (Oq (Cy (.inr (.inl O)) O O) O ?_))))
 rintro _ w1 ⟨r1, rfl, f1, c1⟩
 have z1 := c1.size
 refine Wt O O (Om (Ri O) O (Wt O O (Om (Ri O) O (Oq (Cy (.inr (.inl O)) O O) O ?_))))
 rintro _ w2 ⟨r2, rfl, f2, c2⟩
 have z2 := c2.size
 refine Om (Rf O O) O (Wv O O (Wz (Qo (Qx O O (Kw ?_)))))
 have CH_2 := (c1.trans c2)
 exact ⟨_, _, O, (by show (cn _, cn _) = _; rw [f1, f2]; rfl), CH_2⟩
theorem ref22_half (a b : Nat) (w : World) :
  Calls prog 84 #[.complex .f64 a b] w (Ret (fun v w' => ∃ p q, v = .complex .f64 p q ∧ cx (p, q) = timesF (cx (a, b)) halv ∧ Ch No w w')) := by
 refine Kt func84 O ntmps84 O (Ka (Wv O O (Wx ?_)))
 refine Wt O O (Om (Rh O) O (Oq (Cy (.inr (.inr (.inl O))) O O) O ?_))
 rintro _ w1 ⟨r1, rfl, f1, c1⟩
 have z1 := c1.size
 refine Wt O O (Om (Ri O) O (Oq (Cy (.inr (.inr (.inl O))) O O) O ?_))
 rintro _ w2 ⟨r2, rfl, f2, c2⟩
 have z2 := c2.size
 refine Om (Rf O O) O (Wv O O (Wz (Qo (Qx O O (Kw ?_)))))
 have CH_2 := (c1.trans c2)
 exact ⟨_, _, O, (by show (cn _, cn _) = _; rw [f1, f2]; rfl), CH_2⟩
set_option maxHeartbeats 1000000 in
theorem ref22_There (SX : Nat → Prop) (X : Option Addr) (n xc : Nat) (ys : List CB) (f : Nat → Cx) (w : World) (sx : SlR SX w X n 1 (ys.map cxV)) (hX : ∀ q, SX q → q < w.heap.size) (hy : LY n f ys) (hn : 1 ≤ n ∧ n ≤ 4096) :
  Calls prog 82 #[.slice X n xc] w (Ret (fun v w' => ∃ r B k os, v = .slice B n k ∧ CR 33 w' r B n k os ∧ LY n (trM (oOf n) f) os ∧ w.heap.size < r ∧ Ch No w w')) := by
 refine Kt func82 O ntmps82 O (Ka (Wv O O (Wx ?_)))
 refine Wt O O (Om (Cr υ31 O) O (Oq (Qi call124 O (ref14_Usual _)) O ?_))
 rintro _ w1 ⟨FA, fc, rfl, sl, c1⟩
 have z1 := c1.size
 refine Oq (Qi call123 O (ref14_Choose _ (by omega) (by omega) _ _ _ _ sl (fun q hq => by omega))) O ?_
 rintro _ w2 ⟨r, rA, rc, rfl, hr1, rk, c2⟩
 have z2 := c2.size
 refine Wt O O (Om (Qw O O) O (Om (Qw O O) O (Kl (Cj ζ53) O ?_)))
 intro p3 w3 b3 c3 e3 z3
 refine Kr (Cm ς53 O O O O b3) O ?_
 intro w4 c4 z4 b3_4
 refine Wv O O (Wy ?_)
 have hu9 := ((hasP_all (n := n) (by omega) (by omega)) r hr1).1
 have h09 : r.1.len ≠ 0 := by omega
 have go9 := GO.of_len h09
 refine Qb (Om (Qy ι53 ς53 O O (b3_4.all' O)) O (Wt O O ?_))
 have cc_2_4 : Ch No w2 w4 := (Ch.then (E := No) c3 c4)
 have rk_4 := rk.keep cc_2_4
 have cc_0_4 : Ch No w w4 := (Ch.then (E := No) ((c1.and c2).and c3) c4)
 have sx_4 := sx.keep cc_0_4
 refine Oq (Qi κ69 O (ref20_all go9 h09 _ _ _ _ _ _ _ _ _ _ rk_4 (by omega) sx_4 (fun q hq => by have := hX q hq; omega) hu9)) O ?_
 rintro _ w5 ⟨r5, B5, k5, os5, rfl, tr5, ht5, hr5, c5⟩
 have hlo5 := Ow.lt tr5
 have z5 := c5.size
 obtain ⟨os1, hos1⟩ : ∃ z, z = os5 := ⟨_, rfl⟩
 have htos1 := ht5; rw [← hos1] at htos1 tr5
 refine Wv O O (Wz (Qo (Qx O O (Kw ?_))))
 have h8 := htos1; rw [trM_of h09 hu9 hy.get, oOf_spec hr1] at h8
 have cc_0_5 : Ch No w w5 := ((Ch.then (E := No) ((c1.and c2).and c3) c4).and c5)
 have CH_5 := cc_0_5
 exact ⟨_, _, _, _, O, tr5, h8, by omega, CH_5⟩
theorem ref22_ForwardA (SX : Nat → Prop) (X : Option Addr) (n xc : Nat) (xs : List Nat) (w : World) (sx : SlR SX w X n 1 (xs.map flV)) (hX : ∀ q, SX q → q < w.heap.size) (h1 : n = 1) :
  Calls prog 38 #[.slice X n xc] w (Ret (fun v w' => ∃ r A k zs, v = .tuple #[.slice A (n / 2 + 1) k, Kf 0] ∧ CR 33 w' r A (n / 2 + 1) k zs ∧ LY (n / 2 + 1) (hF n (XF xs)) zs ∧ w.heap.size < r ∧ Ch No w w')) := by
 refine Kt func38 O ntmps38 O (Ka (Wv O O (Wv O O (Wy ?_))))
 refine Qb (Wt O O (Om (Cr υ24 O) O (Wv O O (Wy (Qe ?_)))))
 refine Qb (Wt O O (Om (Cf O O) O (Wz (Qj O (fun hc1 => ?_) (fun hc1 => ?_)))))
 ·
  refine Ka (Wt O O (Om (Qs υ24 ς32 O O (sx.ne (by omega))) O (Om (Qg ι32 O (sx.getF (by omega))) O (Om (Rf O O) O (Ko 1 1 (Kk υ31 inf33w106 O O) O ?_)))))
  intro p1 w1 l22 l22o c1 e1 z1
  refine Wv O O (Wv O O (Wz (Qo (Qu (Cz O O O (Kw ?_))))))
  have h2 : n / 2 + 1 = 1 := by omega
  have hl : LY (n / 2 + 1) (hF n (XF xs)) [(xs.getD 0 0, 0)] := ⟨h2.symm, fun k hk => by obtain rfl : k = 0 := (by omega); show _ = hF n (XF xs) 0; unfold hF; rw [if_pos h1]; rfl⟩
  have CH_1 := c1
  refine ⟨p1 + 1, some ⟨p1, 0, none⟩, 1, [(xs.getD 0 0, 0)], ?_, ?_, hl, by omega, CH_1⟩
  rw [h2]
  rw [h2]; exact l22o
 omega
set_option maxHeartbeats 2000000 in
theorem ref22_ForwardB (SX : Nat → Prop) (X : Option Addr) (n xc : Nat) (xs : List Nat) (w : World) (sx : SlR SX w X n 1 (xs.map flV)) (hX : ∀ q, SX q → q < w.heap.size)  (h : Nat) (hn2 : n = 2 * h) (hh : 1 ≤ h) (hh2 : h ≤ 2048)  :
  Calls prog 38 #[.slice X n xc] w (Ret (fun v w' => ∃ r A k zs, v = .tuple #[.slice A (n / 2 + 1) k, Kf 0] ∧ CR 33 w' r A (n / 2 + 1) k zs ∧ LY (n / 2 + 1) (hF n (XF xs)) zs ∧ w.heap.size < r ∧ Ch No w w')) := by
 have hd2 : n / 2 = h := by omega
 refine Kt func38 O ntmps38 O (Ka (Wv O O (Wv O O (Wy ?_))))
 refine Qb (Wt O O (Om (Cr υ24 O) O (Wv O O (Wy (Qe ?_)))))
 refine Qb (Wt O O (Om (Cf O O) O (Wz (Qj O (fun hc1 => ?_) (fun hc1 => ?_)))))
 · omega
 refine Qm (Qa (Qe (Ka (Wt O O (Om (Co O O) O (Wt O O ?_))))))
 refine Ra (b := _) 3 25 28 O (fun hc2 Jhc2 => by
   refine Oy O (Oy O (Om (Qq O O) O ?_))
   exact (Qp O (Qp O Jhc2))) (fun hc2 Jhc2 => by
   try simp only [bX] at hc2
   refine Wt O O (Om (Rb O O) O (Om (Qn O O) O ?_))
   exact (Qp O (Qp O Jhc2))) ?_
 refine Wt O O ?_
 refine Ra (b := _) 4 29 33 O (fun hc3 Jhc3 => by
   refine Oy O (Oy O (Oy O (Om (Qq O O) O ?_)))
   exact (Qp O (Qp O (Qp O Jhc3)))) (fun hc3 Jhc3 => by
   try simp only [bX] at hc3
   refine Wt O O (Om (Rm O O) O (Om (Cf O O) O (Om (Qn O O) O ?_)))
   exact (Qp O (Qp O (Qp O Jhc3)))) ?_
 refine Wz (Cq O (fun hc4 => ?_) (fun hc4 => ?_))
 ·
  try simp only [bX] at hc4
  omega
 try simp only [bX] at hc4
 refine Qm (Qa (Ka (Wt O O (Om (Rn.castJ (show (n : Int) / 2 = (h : Int) by omega) (Rz O O (by omega) (by omega) (by omega))) O (Wv O O (Qf ?_))))))
 refine Qa (Ka (Kb (Wk.lit0 υ31 inf33w106) O ?_))
 intro p1 w1 N1 c1 e1 z1
 have l36o := Ow.of_new (cs := []) (sz := 1) (l := 0) N1 rfl (by decide)
 refine Wv O O (Wy (Ka (Wv O O (Qf ?_))))
 refine Qa (Qt ?_)
 have sx_1 := sx.keep c1
 have CH_1 := c1
 refine Ke (σ := Nat × Nat × Option Addr × Nat × List CB) (fun (j, rY, AY, cY, us) => [(0, .slice X n xc), (4, Kf n), (5, Kf h), (6, .slice AY j cY), (7, Kf j)]) (fun (j, rY, AY, cY, us) w' => j ≤ h ∧ w.heap.size < rY ∧ (∀ l, l < j → cx (us.getD l (0, 0)) = prF (XF xs) l) ∧ w1.heap.size ≤ w'.heap.size ∧ SlR SX w' X n 1 (xs.map flV) ∧ CR 33 w' rY AY j cY us ∧ Ch (No) w w') (fun (j, rY, AY, cY, us) => h - j) (0, (p1 + 1), (Kh p1), 0, []) ?_ ?_
 · exact ⟨(by omega), (by omega), (fun m h => absurd h (Nat.not_lt_zero _)), (Nat.le_refl _), sx_1, l36o, CH_1⟩
 rintro ⟨j, rY, AY, cY, us⟩ w2 ⟨hj, hrY, hys, hsz2, sx_2, yy_2, CH_2⟩
 have hol2 := CR.len yy_2
 have hj1 : (2 * (j : Int)).toNat = 2 * j := by omega
 have hj2 : (2 * (j : Int) + 1).toNat = 2 * j + 1 := by omega
 refine Qe (Ka (Wt O O (Wt O O (Om (Co O O) O (Wz ?_)))))
 refine Qj O (fun hc5 => ?_) (fun hc5 => ?_)
 ·
  refine Qm (Qa (Qe (Qt (Ki 15 [0, 2, 4, 6, 8, 10, 12, 14, 16, 18, 20, 22, 24, 27, 29] (At rY) ?_))))
  intro w3 c3 z3
  have sx_3 := sx_2.keep c3
  have yy_3 := yy_2.keep c3
  refine Wu O O (Wu O O (Wu O O ?_))
  refine Wq (Cw O O) O ?_
  refine Ws (fun hS => Qs υ24 ς32 O O ((sx_3.to hS (by first | exact fun _ _ _ _ => id | (intro q h1 h2 hx h3; have := hX q h2; omega))).ne (by omega))) O ?_
  refine Ws (fun hS => Qg ι32 O ((sx_3.to hS (by first | exact fun _ _ _ _ => id | (intro q h1 h2 hx h3; have := hX q h2; omega))).getF (by omega))) O ?_
  refine Wu O O (Wu O O ?_)
  refine Wq (Cw O O) O ?_
  refine Wq (Cd O O) O ?_
  refine Ws (fun hS => Qs υ24 ς32 O O ((sx_3.to hS (by first | exact fun _ _ _ _ => id | (intro q h1 h2 hx h3; have := hX q h2; omega))).ne (by omega))) O ?_
  refine Ws (fun hS => Qg ι32 O ((sx_3.to hS (by first | exact fun _ _ _ _ => id | (intro q h1 h2 hx h3; have := hX q h2; omega))).getF (by omega))) O ?_
  refine Wq (Rf O O) O (Kq 1 1 (Kk υ31 inf33w106 O O) O ?_)
  intro p4 w4 l55 l55o c4 e4 z4
  have RD_4 := (Ch.refl (At rY) w3).and c4
  refine ⟨RD_4, ?_⟩
  have yy_4 := yy_3.keep c4
  refine Hq (Cl (S := _) υ31 inf33w106 O (by decide) O O yy_4 l55 (by rfl) (fun h => by simp at h) (by omega) (by simp only [maxLen]; omega)) O ?_
  rintro _ w5 ⟨r5, A5, k5, rfl, o5, c5, q5⟩
  have z5 := c5.size
  have y5 := o5.lt
  have RD_5 : Ch (At rY) w3 w5 := RD_4.then c5
  refine ⟨RD_5, ?_⟩
  refine Ck (Wv O O (Qf (Ca (Ql (Qa (Qb (Wt O O ?_)))))))
  refine Om (Cd O O) O ?_
  refine Wv O O (Qf ?_)
  refine Kd (j + 1, r5, A5, k5, us ++ [(xs.getD (2 * j) 0, xs.getD (2 * j + 1) 0)]) ?_
  have sx_4 := sx_3.keep c4
  have sx_5 := sx_4.to c5 (by first | exact fun _ _ _ _ => id | (intro q h1 h2 hx h3; have := hX q h2; omega))
  have CH_4 := CH_2.and (c3.trans c4)
  have CH_5 : Ch (No) w w5 := CH_4.then c5
  exact ⟨(by omega), (by omega), (LY.snoc hys hol2 O), (by omega), sx_5, (by have sp9 := o5; rw [hj1, hj2] at sp9; show Ow _ _ _ _ _ _ _ (List.map cxV (_ ++ _)); rw [List.map_append]; exact sp9), CH_5⟩
 refine Cn (Qk (Qk (Qz (Qa (Qe ?_)))))
 obtain rfl : h = j := by omega
 have hy0 : LY h (prF (XF xs)) us := ⟨CR.len yy_2, hys⟩
 refine Qb (Wt O O ?_)
 refine Oq (Qi call82 O (ref22_There _ _ h _ us (prF (XF xs)) _ (yy_2).sl (fun q hq => by have := Ow.lt yy_2; omega) hy0 (by omega))) O ?_
 rintro _ w6 ⟨rT, AT, kT, ts, rfl, tz6, hts, yt6, c6⟩
 have htl := hts.len; have ytl6 := Ow.lt tz6
 have z6 := c6.size
 refine Wv O O (Wx (Kb (Wk.lit0 υ31 inf33w106) O ?_))
 intro p7 w7 N7 c7 e7 z7
 have l59o := Ow.of_new (cs := []) (sz := 1) (l := 0) N7 rfl (by decide)
 refine Wv O O (Wy (Ka (Wv O O (Qf ?_))))
 refine Qa (Qt ?_)
 have tz_7 := tz6.keep c7
 have CH_7 := CH_2.and (c6.trans c7)
 refine Ke (σ := Nat × Nat × Option Addr × Nat × List CB) (fun (k, rZ, AZ, cZ, os) => [(4, Kf n), (5, Kf h), (6, .slice AT h kT), (8, .slice AZ k cZ), (9, Kf k)]) (fun (k, rZ, AZ, cZ, os) w' => k ≤ h + 1 ∧ (w.heap.size < rZ ∧ rT < rZ) ∧ (∀ l, l < k → cx (os.getD l (0, 0)) = fH h (trM (oOf h) (prF (XF xs))) l) ∧ w7.heap.size ≤ w'.heap.size ∧ CR 33 w' rT AT h kT ts ∧ CR 33 w' rZ AZ k cZ os ∧ Ch (No) w w') (fun (k, rZ, AZ, cZ, os) => h + 1 - k) (0, (p7 + 1), (Kh p7), 0, []) ?_ ?_
 · exact ⟨(by omega), (by omega), (fun m h => absurd h (Nat.not_lt_zero _)), (Nat.le_refl _), tz_7, l59o, CH_7⟩
 rintro ⟨k, rZ, AZ, cZ, os⟩ w8 ⟨hk, hrZ, hzs, hsz8, tz_8, zz_8, CH_8⟩
 have hol2 := CR.len zz_8
 have em1 : (k : Int) % (h : Int) = ((k % h : Nat) : Int) := rfl
 have hm1 := Nat.mod_lt k (show 0 < h by omega)
 have em2 : k < h + 1 → ((h : Int) - (k : Int)) % (h : Int) = (((h - k) % h : Nat) : Int) := fun h9 => by rw [← Int.ofNat_sub (by omega)]; rfl
 have hm2 := Nat.mod_lt (h - k) (show 0 < h by omega)
 refine Qe (Ka (Wt O O (Wt O O (Om (Rp O O) O (Wz ?_)))))
 refine Qj O (fun hc6 => ?_) (fun hc6 => ?_)
 ·
  refine Qm (Qa (Qe (Qt (Qe (Ki 16 [0, 2, 4, 6, 8, 10, 12, 14, 16, 18, 20, 22, 24, 26, 29, 30] (No) ?_)))))
  intro w9 c9 z9
  have tz_9 := tz_8.keep c9
  have zz_9 := zz_8.keep c9
  refine Wu O O (Wu O O (Wu O O (Wq (Rm O O) O (Wq (Qs υ31 ς33 O O (tz_9.sl.ne (by omega))) O (Ws (fun hS => Qg ι33 O ((tz_9.keep hS).sl.getC (by omega) (by omega))) O (Wu O O (Wu O O ?_)))))))
  refine Wu O O ?_
  refine Wq (Rg O O) O ?_
  refine Wu O O (Wq (Rm O O) O (Wq (Qs υ31 ς33 O O (tz_9.sl.ne (by omega))) O (Ws (fun hS => Qg ι33 O ((tz_9.keep hS).sl.getC (by omega) (by omega))) O (Hq (Qi call83 O (ref02_Conj _ _ _)) O ?_))))
  rintro _ w10 ⟨p10, q10, rfl, F10, c10⟩
  have z10 := c10.size
  have RD_10 := (Ch.refl (No) w9).and c10
  refine ⟨RD_10, ?_⟩
  refine Ww O O (Ck (Wv O O (Qf (Ca (Qa (Ka ?_))))))
  refine Wt O O (Wt O O (Oq (Qi call85 O (ref22_plus _ _ _ _ _)) O ?_))
  rintro _ w11 ⟨p11, q11, rfl, F11, c11⟩
  have z11 := c11.size
  refine Oq (Qi call84 O (ref22_half _ _ _)) O ?_
  rintro _ w12 ⟨p12, q12, rfl, F12, c12⟩
  have z12 := c12.size
  refine Wv O O (Wx (Wt O O (Wt O O (Oq (Qi call87 O (ref22_less _ _ _ _ _)) O ?_))))
  rintro _ w13 ⟨p13, q13, rfl, F13, c13⟩
  have z13 := c13.size
  refine Oq (Qi call86 O (ref02_MinusI _ _ _)) O ?_
  rintro _ w14 ⟨p14, q14, rfl, F14, c14⟩
  have z14 := c14.size
  refine Oq (Qi call84 O (ref22_half _ _ _)) O ?_
  rintro _ w15 ⟨p15, q15, rfl, F15, c15⟩
  have z15 := c15.size
  refine Wv O O (Wz ?_)
  have hq9 : (k : Int) % (n : Int) = (k : Int) := Int.emod_eq_of_lt (by omega) (by omega)
  refine Qb (Wt O O (Wt O O (Wt O O (Wt O O (Wt O O (Oq (Qi call70 O (ref07_Twist _ _ n _ k (by omega) (by omega) (by omega) hq9 _)) O ?_))))))
  rintro _ w16 ⟨p16, q16, rfl, F16, c16⟩
  have z16 := c16.size
  refine Oq (Qi call85 O (ref22_plus _ _ _ _ _)) O ?_
  rintro _ w17 ⟨p17, q17, rfl, F17, c17⟩
  have z17 := c17.size
  refine Ko 1 1 (Kk υ31 inf33w106 O O) O ?_
  intro p18 w18 l96 l96o c18 e18 z18
  have zz_18 := zz_9.keep (c10.trans (c11.trans (c12.trans (c13.trans (c14.trans (c15.trans (c16.trans (c17.trans c18))))))))
  refine Oq (Cl (S := _) υ31 inf33w106 O (by decide) O O zz_18 l96 (by rfl) (fun h => by simp at h) (by omega) (by simp only [maxLen]; omega)) O ?_
  rintro _ w19 ⟨r19, A19, k19, rfl, o19, c19, q19⟩
  have z19 := c19.size
  have y19 := o19.lt
  refine Wv O O (Qf (Ql (Qa (Qb (Wt O O ?_)))))
  refine Om (Cd O O) O ?_
  refine Wv O O (Qf ?_)
  refine Kd (k + 1, r19, A19, k19, os ++ [(p17, q17)]) ?_
  have tz_18 := tz_9.keep (c10.trans (c11.trans (c12.trans (c13.trans (c14.trans (c15.trans (c16.trans (c17.trans c18))))))))
  have tz_19 := tz_18.to c19
  have CH_18 := CH_8.and (c9.trans (c10.trans (c11.trans (c12.trans (c13.trans (c14.trans (c15.trans (c16.trans (c17.trans c18)))))))))
  have CH_19 : Ch (No) w w19 := CH_18.then c19
  exact ⟨(by omega), (by omega), (LY.snoc hzs hol2 (by rw [F17, F12, F11, F16, F15, F14, F13, F10]; exact dH_of (by rw [em1, Int.toNat_natCast]; exact hts.get _ hm1) (by rw [em2 (by omega), Int.toNat_natCast]; exact hts.get _ hm2) hn2)), (by omega), tz_19, (by show Ow _ _ _ _ _ _ _ (List.map cxV (_ ++ _)); rw [List.map_append]; exact o19), CH_19⟩
 refine Cn (Qk (Qk (Qz (Qa (Ka (Wt O O ?_))))))
 refine Wv O O (Wv O O (Wz (Qo (Cz O O O (Kw ?_)))))
 obtain rfl : k = h + 1 := by omega
 refine ⟨rZ, AZ, cZ, os, ?_, ?_, ?_, hrZ.1, CH_8⟩
 rw [hd2]
 rw [hd2]; exact zz_8
 rw [hd2]; exact ⟨CR.len zz_8, fun l hl => by rw [hzs l hl]; unfold hF; rw [if_neg (by omega), hd2]⟩
end Go.Tm
namespace Go.Tm
set_option maxRecDepth 100000
open Go.RowKit Go.Proofs Go.Proofs.Tryz
abbrev errGs : List Nat := [0, 2, 3, 4, 5, 6, 7, 8, 9, 10, 11, 12, 13, 14, 15, 16, 17, 18, 19]
abbrev errV (E : Nat → Addr) (g : Nat) : Value := .iface 321 (.pointer (some (E g)))
structure ErrT (B : Nat) (E : Nat → Addr) (w : World) : Prop where
  get : ∀ g, g ∈ errGs → w.cell? ⟨g, 0, none⟩ = some (errV E g)
  blk : ∀ g, g ∈ errGs → (E g).block < B ∧ ∃ cs t, w.heap[(E g).block]? = some (.cells cs t (0, 0))
  gn : 24 ≤ B
  inj : ∀ g h, g ∈ errGs → h ∈ errGs → E g = E h → g = h
theorem ErrT.to {B : Nat} {E : Nat → Addr} {D : Nat → Prop} {w w' : World} (h : ErrT B E w) (c : Ch D w w') (hd : ∀ q, q < w.heap.size → q < B → isC w q → ¬ D q := by first | exact fun _ _ _ _ => id | (intro q h1 h2 hx h3; omega)) : ErrT B E w' :=
  ⟨fun g hg => by
    have h0 := h.get g hg
    have hlt : g < 24 := (by decide : ∀ g ∈ errGs, g < 24) g hg
    exact c.cell (hd g (World.block_lt_of_cell? w _ h0) (Nat.lt_of_lt_of_le hlt h.gn) (cell_cells h0)) h0,
   fun g hg => by
    obtain ⟨h1, cs, t, h2⟩ := h.blk g hg
    exact ⟨h1, cs, t, c.old _ _ (hd _ (blk_lt h2) h1 ⟨_, _, _, h2⟩) h2⟩, h.gn, h.inj⟩
theorem ErrT.keep {B : Nat} {E : Nat → Addr} {w w' : World} (h : ErrT B E w) (c : Ch No w w') : ErrT B E w' := h.to c fun _ _ _ _ => id
abbrev errOrd : List Nat := [3, 4, 5, 6, 7, 8, 0, 9, 10, 11, 12, 13, 14, 15, 16, 17, 2, 18, 19]
theorem Rn.idxV {P : Program} {n : Fr} {k : K} {w : World} {d : Option Nat} {ty : TypeId} {pos : String} {aft : Array Edge} {g : Option (Nat × Bool)} {t e : TypeId} {len : Nat} {x y : Operand} {cs : Array Value} {q : IntKind} {i : Int} {v : Value} (ht : P.underlying t = some (.array len e)) (ha : ∀ w, (isAgg e).run P w = .ok false w) (hz : ∀ w, (sizeOf e).run P w = .ok 1 w)
  (hx : ev k x = some (.agg cs)) (hy : ev k y = some (.int q i)) (h0 : 0 ≤ i) (h1 : i < len) (hv : cs[i.toNat]? = some v) :
  Rn P n k w { dst := d, op := .index t x y, type := ty, pos := pos, after := aft, guard := g } v :=
 fun a hf => by simp [execOp, hf.eval hx, hf.eval hy, Instr.index, run_underlying ht, asIntOf, h0, h1, part, ha, hz, hv]
theorem Rn.err_eql {n : Fr} {k : K} {w : World} {d : Option Nat} {ty : TypeId} {pos : String} {aft : Array Edge} {gd : Option (Nat × Bool)} {t' : TypeId} {x y : Operand} {B : Nat} {E : Nat → Addr} {g h : Nat} (er : ErrT B E w) (hg : g ∈ errGs) (hh : h ∈ errGs) (hx : ev k x = some (errV E g)) (hy : ev k y = some (errV E h)) :
  Rn prog n k w { dst := d, op := .binOp .eql 28 x y t', type := ty, pos := pos, after := aft, guard := gd } (.bool (decide (g = h))) := by
 refine Wa hx hy (fun x y => ?_)
 obtain ⟨_, ca, ta, b1⟩ := er.blk g hg
 obtain ⟨_, cb, tb, b2⟩ := er.blk h hh
 by_cases e : g = h
 ·
  subst e
  have := run_eql_iface_ptr_same (P := prog) w (ti := 28) (tp := 321) (E g) υ28 υ321 type321 (by kernel_rfl) type338
  simp [eqGuard_at_iface, this]
 ·
  have hne : E g ≠ E h := fun e2 => e (er.inj g h hg hh e2)
  have := run_eql_iface_ptr_other (P := prog) w (ti := 28) (tp := 321) υ28 υ321 type321 (by kernel_rfl) type338 (by decide) hne b1 b2
  simp [eqGuard_at_iface, this, e]
theorem errOrd_mem : ∀ (i g : Nat), errOrd[i]? = some g → g ∈ errGs := by
 intro i g h
 have := List.mem_of_getElem? h
 revert this
 exact (by decide : ∀ g ∈ errOrd, g ∈ errGs) g
theorem SlR.preF {S : Nat → Prop} {w : World} {A : Option Addr} {l n : Nat} {xs ys : List Nat} (h : SlR S w A l 1 ((xs ++ ys).map flV)) (hx : xs.length = n) (hl : n ≤ l := by omega) : SlR S w A n 1 (xs.map flV) := by
 refine ⟨by simp [hx], fun h0 => h.ne (by omega), fun ad had j u hj => h.cells ad had j u ?_, h.ok⟩
 have hlt := (List.getElem?_eq_some_iff.1 hj).1
 rw [List.map_append, List.getElem?_append_left hlt]; exact hj
theorem app_get {xs : List Nat} {n a : Nat} (h : xs.length = n) : (xs ++ [a]).getD n 0 = a := by
 subst h; simp [List.getD]
def fcan (b : Nat) : Nat := if (Ieee.double.order b b != some .eq) = true then 9221120237041090560 else b
def flG (bs : List Int) : List Nat := bs.map fun z => fcan z.toNat
theorem flG_len (bs : List Int) : (flG bs).length = bs.length := by simp [flG]
theorem flG_take {bs : List Int} {j : Nat} (h : j < bs.length) : ((flG bs).take (j + 1)).map flV = ((flG bs).take j).map flV ++ [.float .f64 (fcan (bs.getD j 0).toNat)] := by
 have h2 : j < (flG bs).length := by rw [flG_len]; exact h
 rw [List.take_add_one, List.map_append, List.getElem?_eq_getElem h2]
 simp [flG, List.getD, h]
theorem flG_all {bs : List Int} {j : Nat} (h : bs.length = j) : ((flG bs).take j).map flV = (flG bs).map flV := by
 rw [List.take_of_length_le (by rw [flG_len]; omega)]
theorem oOf_two (h : UsG 2) : oOf 2 = .mk 2 2 [] := by
 obtain ⟨r, hr, _⟩ := h.ex
 rw [← oOf_spec hr]
 have h2 : (bestF PU 30 2).map (·.1) = some (.mk 2 2 []) := by kernel_rfl
 cases h3 : bestF PU 30 2 with
 | none => rw [h3] at h2; cases h2
 | some r2 =>
  rw [h3] at h2
  rw [hr.unique ⟨30, h3⟩]
  simpa using h2
abbrev l4 : List Nat := [4607182418800017408, 4611686018427387904, 4613937818241073152, 4616189618054758400]
abbrev h3 : List CB := [(4621819117588971520, 0), (13835058055282163712, 4611686018427387904), (13835058055282163712, 0)]
theorem cx_const {p q y : CB} (h : cx p = cx q) (h1 : cx q = (some q.1, some q.2)) (hc : ceq q y = true) : ceq p y = true := by
 rw [h1] at h
 have e : p = q := by
  obtain ⟨a, b⟩ := p
  obtain ⟨c, d⟩ := q
  simp only [cx, Prod.mk.injEq] at h
  obtain ⟨ha, hb⟩ := h
  have key : ∀ u v : Nat, cn u = some v → u = v := fun u v h => by
   unfold cn at h
   split at h
   · cases h
   · injection h
  rw [key _ _ ha, key _ _ hb]
 rw [e]; exact hc
theorem livesF (us : UsG 2) {zs : List CB} (h : ∀ j, j < 4 / 2 + 1 → cx (zs.getD j (0, 0)) = hF 4 (XF l4) j) : ∀ j, j < 3 → ceq (zs.getD j (0, 0)) (h3.getD j (0, 0)) = true := by
 intro j hj
 have e : hF 4 (XF l4) j = fH 2 (trM (.mk 2 2 []) (prF (XF l4))) j := by
  unfold hF
  rw [if_neg (by decide), show 4 / 2 = 2 from rfl, oOf_two us]
 have hz := h j hj
 rw [e] at hz
 match j, hj with
 | 0, _ => exact cx_const (q := (4621819117588971520, 0)) (hz.trans (by kernel_rfl)) (by kernel_rfl) (by kernel_rfl)
 | 1, _ => exact cx_const (q := (13835058055282163712, 4611686018427387904)) (hz.trans (by kernel_rfl)) (by kernel_rfl) (by kernel_rfl)
 | 2, _ => exact cx_const (q := (13835058055282163712, 0)) (hz.trans (by kernel_rfl)) (by kernel_rfl) (by kernel_rfl)
theorem livesI (us : UsG 2) {os : List Nat} (h : ∀ j, j < 2 → cx (os.getD (2 * j) 0, os.getD (2 * j + 1) 0) = ivF 2 (oOf 2) (iZ 2 (fun j => cx (h3.getD j (0, 0)))) j) : cn (os.getD 0 0) = cn 4607182418800017408 ∧ cn (os.getD 3 0) = cn 4616189618054758400 := by
 rw [oOf_two us] at h
 exact ⟨congrArg (·.1) ((h 0 (by omega)).trans (show _ = cx (4607182418800017408, 4611686018427387904) by kernel_rfl)), congrArg (·.2) ((h 1 (by omega)).trans (show _ = cx (4613937818241073152, 4616189618054758400) by kernel_rfl))⟩
theorem inf32w107 : Inf prog 32 (.float .f64 0) 1 8 := ⟨Tryz.t32, type32, rfl, rfl, rfl⟩
theorem inf33w107 : Inf prog 33 (.complex .f64 0 0) 1 16 := ⟨Tryz.t33, type33, rfl, rfl, rfl⟩
theorem bld109_0_1_2_3_4_5_6_7_8_9_10_11_12_13_14_15_16_17_18w107 {v0 v1 v2 v3 v4 v5 v6 v7 v8 v9 v10 v11 v12 v13 v14 v15 v16 v17 v18 : Value} (h : [v0, v1, v2, v3, v4, v5, v6, v7, v8, v9, v10, v11, v12, v13, v14, v15, v16, v17, v18].all Value.oneCell' = true) (w : World) : (Instr.build 109 ([(0, v0), (1, v1), (2, v2), (3, v3), (4, v4), (5, v5), (6, v6), (7, v7), (8, v8), (9, v9), (10, v10), (11, v11), (12, v12), (13, v13), (14, v14), (15, v15), (16, v16), (17, v17), (18, v18)] : List (Nat × Value)).toArray).run prog w = .ok (.agg #[v0, v1, v2, v3, v4, v5, v6, v7, v8, v9, v10, v11, v12, v13, v14, v15, v16, v17, v18]) w := by
 simp only [List.all_cons, Bool.and_eq_true, List.all_nil, and_true] at h
 have hv0 := oneCell_cells (v := v0) (by simp_all)
 have hv1 := oneCell_cells (v := v1) (by simp_all)
 have hv2 := oneCell_cells (v := v2) (by simp_all)
 have hv3 := oneCell_cells (v := v3) (by simp_all)
 have hv4 := oneCell_cells (v := v4) (by simp_all)
 have hv5 := oneCell_cells (v := v5) (by simp_all)
 have hv6 := oneCell_cells (v := v6) (by simp_all)
 have hv7 := oneCell_cells (v := v7) (by simp_all)
 have hv8 := oneCell_cells (v := v8) (by simp_all)
 have hv9 := oneCell_cells (v := v9) (by simp_all)
 have hv10 := oneCell_cells (v := v10) (by simp_all)
 have hv11 := oneCell_cells (v := v11) (by simp_all)
 have hv12 := oneCell_cells (v := v12) (by simp_all)
 have hv13 := oneCell_cells (v := v13) (by simp_all)
 have hv14 := oneCell_cells (v := v14) (by simp_all)
 have hv15 := oneCell_cells (v := v15) (by simp_all)
 have hv16 := oneCell_cells (v := v16) (by simp_all)
 have hv17 := oneCell_cells (v := v17) (by simp_all)
 have hv18 := oneCell_cells (v := v18) (by simp_all)
 have h1 := fill_set (fun i => some (i * 1, 1)) [(0, v0), (1, v1), (2, v2), (3, v3), (4, v4), (5, v5), (6, v6), (7, v7), (8, v8), (9, v9), (10, v10), (11, v11), (12, v12), (13, v13), (14, v14), (15, v15), (16, v16), (17, v17), (18, v18)] [.nilIface, .nilIface, .nilIface, .nilIface, .nilIface, .nilIface, .nilIface, .nilIface, .nilIface, .nilIface, .nilIface, .nilIface, .nilIface, .nilIface, .nilIface, .nilIface, .nilIface, .nilIface, .nilIface] (by simp [okF, agg_cells, hv0, hv1, hv2, hv3, hv4, hv5, hv6, hv7, hv8, hv9, hv10, hv11, hv12, hv13, hv14, hv15, hv16, hv17, hv18, Nat.beq, Nat.ble])
 simp [setF, agg_cells, hv0, hv1, hv2, hv3, hv4, hv5, hv6, hv7, hv8, hv9, hv10, hv11, hv12, hv13, hv14, hv15, hv16, hv17, hv18] at h1
 simp [Instr.build, runUnderlying109, zeroValue109, sizeOf28, agg_cells, h1]
theorem num_list (B : Nat) (E : Nat → Addr) (w : World) (er : ErrT B E w) :
  Calls prog 71 #[] w (Ret (fun v w' => v = .agg (errOrd.map (errV E)).toArray ∧ Ch No w w')) := by
 refine Kt func71 O ntmps71 O (Ka (Kl (Cj zeroValue109) O ?_))
 intro p1 w1 b0 c1 e1 z1
 refine Wx ?_
 have er_1 := er.keep c1
 refine Om (Qg ι28 O (er_1.get 3 (by decide))) O (Om (Qg ι28 O (er_1.get 4 (by decide))) O (Om (Qg ι28 O (er_1.get 5 (by decide))) O (Om (Qg ι28 O (er_1.get 6 (by decide))) O (Om (Qg ι28 O (er_1.get 7 (by decide))) O (Om (Qg ι28 O (er_1.get 8 (by decide))) O (Om (Qg ι28 O (er_1.get 0 (by decide))) O (Om (Qg ι28 O (er_1.get 9 (by decide))) O ?_)))))))
 refine Om (Qg ι28 O (er_1.get 10 (by decide))) O (Om (Qg ι28 O (er_1.get 11 (by decide))) O (Om (Qg ι28 O (er_1.get 12 (by decide))) O (Om (Qg ι28 O (er_1.get 13 (by decide))) O (Om (Qg ι28 O (er_1.get 14 (by decide))) O (Om (Qg ι28 O (er_1.get 15 (by decide))) O (Om (Qg ι28 O (er_1.get 16 (by decide))) O (Om (Qg ι28 O (er_1.get 17 (by decide))) O ?_)))))))
 refine Om (Qg ι28 O (er_1.get 2 (by decide))) O (Om (Qg ι28 O (er_1.get 18 (by decide))) O (Om (Qg ι28 O (er_1.get 19 (by decide))) O (Om (Ct O (bld109_0_1_2_3_4_5_6_7_8_9_10_11_12_13_14_15_16_17_18w107 O)) O (Kr (Cm sizeOf109 O O O O b0) O ?_))))
 intro w2 c2 z2 b0_2
 refine Wz (Qo (Ro O O isAgg109 sizeOf109 O (b0_2.all' O) (Kw ?_)))
 have cc_0_2 : Ch No w w2 := (Ch.then (E := No) c1 c2)
 have CH_2 := cc_0_2
 exact ⟨O, CH_2⟩
theorem num_err (B : Nat) (E : Nat → Addr) (g k : Nat) (hk : errOrd[k]? = some g) (hf : ∀ j, j < k → ∀ h, errOrd[j]? = some h → g ≠ h) (w : World) (er : ErrT B E w) :
  Calls prog 30 #[errV E g] w (Ret (fun v w' => v = Kf ((k : Int) + 1) ∧ Ch No w w')) := by
 have hk19 : k < 19 := (List.getElem?_eq_some_iff.1 hk).1
 refine Kt func30 O ntmps30 O (Ka (Wv O O (Wy (Qe ?_))))
 refine Qb (Wt O O (Om (Rn.err_eql_nil υ28 O) O (Wz (Cc O (Qm (Qa ?_))))))
 refine Qe (Ka (Oq (Qi call71 O (num_list _ _ _ er)) O ?_))
 rintro _ w1 ⟨rfl, c1⟩
 have z1 := c1.size
 refine Wt O O (Wz (Qt ?_))
 have er_1 := er.keep c1
 have CH_1 := c1
 refine Ke (σ := Nat) (fun i => [(0, errV E g), (7, .agg (errOrd.map (errV E)).toArray), (8, Kf i)]) (fun i w' => i ≤ k ∧ w1.heap.size ≤ w'.heap.size ∧ ErrT B E w' ∧ Ch (No) w w') (fun i => 20 - i) 0 ?_ ?_
 · exact ⟨(by omega), (Nat.le_refl _), er_1, CH_1⟩
 rintro i w2 ⟨hik, hsz2, er_2, CH_2⟩
 refine Ka (Om (Co O O) O (Wy (Qj O (fun hc1 => ?_) (fun hc1 => ?_))))
 ·
  refine Qm (Qa (Qe (Qt (Qe ?_))))
  obtain ⟨h, hh⟩ : ∃ h, errOrd[i]? = some h := ⟨_, List.getElem?_eq_getElem (show i < 19 by omega)⟩
  refine Qb (Wt O O (Om (Rn.idxV underlying109 ι28 sizeOf28 O O (by omega) (by omega) (v := errV E h) (by simp only [List.getElem?_toArray, List.getElem?_map, Int.toNat_natCast, hh, Option.map_some])) O ?_))
  refine Wv O O (Wv O O (Wx (Wt O O (Wt O O ?_))))
  refine Om (Rn.err_eql er_2 (errOrd_mem _ _ hk) (errOrd_mem _ _ hh) O O) O (Wz (Qj O (fun hc2 => ?_) (fun hc2 => ?_)))
  ·
   refine Ka (Wt O O ?_)
   refine Om (Cd O O) O ?_
   refine Wv O O (Wz (Qo (Cb (Qu (Qu (Cb ?_))))))
   refine Qu (Qx O O (Kw ?_))
   have hik2 : i = k := by rcases Nat.lt_or_ge i k with h9 | h9; (exact absurd hc2 (hf i h9 h hh)); omega
   subst hik2
   exact ⟨O, CH_2⟩
  refine Qm (Ql (Qa (Qb ?_)))
  refine Om (Cd O O) O ?_
  refine Wt O O (Qf ?_)
  refine Kd (i + 1) ?_
  have hne : i ≠ k := fun e => hc2 (by subst e; rw [hk] at hh; injection hh)
  exact ⟨(by omega), (by omega), er_2, CH_2⟩
 omega
theorem num_nil (w : World) :
  Calls prog 30 #[.nilIface] w (Ret (fun v w' => v = Kf 0 ∧ w = w')) := by
 refine Kt func30 O ntmps30 O (Ka (Wv O O (Wy (Qe ?_))))
 refine Qb (Wt O O (Om (Wb υ28 O) O (Wz (Rd O (Ka ?_)))))
 refine Wv O O (Wz (Qo (Qu (Qx O O (Kw ?_)))))
 exact ⟨O, O⟩
theorem ref_Bits (a : Nat) (w : World) :
  Calls prog 52 #[.float .f64 a] w (Ret (fun v w' => v = .int .u64 (bitF a : Nat) ∧ w = w')) := by
 refine Kt func52 O ntmps52 O (Ka (Wv O O (Wx ?_)))
 refine Wt O O (Om (Rn.fromf func58 (by kernel_rfl) O (by kernel_rfl) (by kernel_rfl) O) O (Wv O O (Wy (Ka ?_))))
 refine Wt O O (Om (Rm O O) O (Om (Rb O O) O (Wz (Qj O (fun hc1 => ?_) (fun hc1 => ?_)))))
 ·
  refine Ka (Wv O O (Wz (Qo (Qu (Qx O O ?_)))))
  refine Kw ?_
  exact ⟨by unfold bitF; rw [if_pos (by omega)]; rfl, O⟩
 refine Qm (Qa (Ka (Wt O O (Wv O O (Wz ?_)))))
 refine Qo (Qx O O (Kw ?_))
 exact ⟨by unfold bitF; rw [if_neg (by omega)], O⟩
theorem ref_SameT (a b : Nat) (h : cn a = cn b) (w : World) :
  Calls prog 19 #[.float .f64 a, .float .f64 b] w (Ret (fun v w' => v = .bool true ∧ w = w')) := by
 have he := bitF_same h
 refine Kt func19 O ntmps19 O (Ka (Wv O O (Wx ?_)))
 refine Wt O O (Oq (Qi call52 O (ref_Bits _ _)) O ?_)
 rintro _ _ ⟨rfl, rfl⟩
 refine Wt O O (Oq (Qi call52 O (ref_Bits _ _)) O ?_)
 rintro _ _ ⟨rfl, rfl⟩
 refine Om (Rn.eqlT O O (by rw [he])) O (Wv O O (Wz (Qo (Qx O O (Kw ?_)))))
 exact ⟨O, O⟩
theorem hand_Same (a b c d : Nat) (h : cx (a, b) = cx (c, d)) (w : World) :
  Calls prog 88 #[.complex .f64 a b, .complex .f64 c d] w (Ret (fun v w' => v = .bool true ∧ w = w')) := by
 have h1 : cn a = cn c := congrArg (·.1) h
 have h2 : cn b = cn d := congrArg (·.2) h
 refine Kt func88 O ntmps88 O (Ka (Wv O O (Wx ?_)))
 refine Wt O O (Om (Rh O) O (Wt O O (Om (Rh O) O (Oq (Qi call19 O (ref_SameT _ _ h1 _)) O ?_))))
 rintro _ _ ⟨rfl, rfl⟩
 refine Wt O O (Wt O O (Om (Ri O) O (Wt O O (Om (Ri O) O (Oq (Qi call19 O (ref_SameT _ _ h2 _)) O ?_)))))
 rintro _ _ ⟨rfl, rfl⟩
 refine Om (Qq O O) O (Wv O O (Wz (Qo (Qx O O (Kw ?_)))))
 exact ⟨O, O⟩
theorem hand_SameList (SA SB : Nat → Prop) (A B : Option Addr) (n ca cb : Nat) (xs ys : List CB) (w : World) (sa : SlR SA w A n 1 (xs.map cxV)) (sb : SlR SB w B n 1 (ys.map cxV)) (hs : ∀ i, i < n → cx (xs.getD i (0, 0)) = cx (ys.getD i (0, 0))) (hn9 : n ≤ 17592186044416 := by omega) :
  Calls prog 39 #[.slice A n ca, .slice B n cb] w (Ret (fun v w' => v = .bool true ∧ Ch No w w')) := by
 refine Kt func39 O ntmps39 O (Ka (Wv O O (Wy (Qe ?_))))
 refine Qb (Wt O O (Om (Cr υ31 O) O (Wt O O (Om (Cr υ31 O) O (Om (Wg O O) O (Wz ?_))))))
 refine Qj O (fun hc1 => ?_) (fun hc1 => ?_)
 · omega
 refine Qm (Qa (Qe (Ka (Wt O O (Om (Cr υ31 O) O (Wt O O ?_))))))
 refine Wz (Qt (Ke (σ := Nat) (fun j => [(0, .slice A n ca), (1, .slice B n cb), (13, Kf n), (14, Kf j)]) (fun j w' => j ≤ n ∧ w.heap.size ≤ w'.heap.size ∧ SlR SA w' A n 1 (xs.map cxV) ∧ SlR SB w' B n 1 (ys.map cxV) ∧ Ch (No) w w') (fun j => n - j) 0 ?_ ?_))
 · exact ⟨(by omega), (Nat.le_refl _), sa, sb, (Ch.refl (No) w)⟩
 rintro j w1 ⟨hj, hsz1, sa_1, sb_1, CH_1⟩
 refine Ka (Om (Co O O) O (Wy (Qj O (fun hc2 => ?_) (fun hc2 => ?_))))
 ·
  refine Qm (Qa (Qe (Qt (Ka (Wt O O (Wv O O ?_))))))
  refine Wy (Ki 9 [0, 2, 4, 6, 8, 10, 12, 14, 17] (No) ?_)
  intro w2 c2 z2
  have sa_2 := sa_1.keep c2
  have sb_2 := sb_1.keep c2
  refine Wu O O (Wu O O (Ws (fun hS => Qs υ31 ς33 O O ((sa_2.keep hS).ne (by omega))) O (Ws (fun hS => Qg ι33 O ((sa_2.keep hS).getC (by omega) (by omega))) O (Wu O O (Wu O O (Ws (fun hS => Qs υ31 ς33 O O ((sb_2.keep hS).ne (by omega))) O (Ws (fun hS => Qg ι33 O ((sb_2.keep hS).getC (by omega) (by omega))) O ?_)))))))
  refine Hq (Qi call88 O (hand_Same _ _ _ _ (hs j (by omega)) _)) O ?_
  rintro _ _ ⟨rfl, rfl⟩
  refine ⟨(Ch.refl (No) w2), ?_⟩
  refine Ck (Wv O O (Qf (Ca (Qa (Ka (Wt O O ?_))))))
  refine Om (Rl O) O (Wz (Cc O (Qm (Ql (Qa (Qb ?_))))))
  refine Om (Cd O O) O ?_
  refine Wt O O (Qf ?_)
  refine Kd (j + 1) ?_
  have CH_2 := CH_1.and c2
  exact ⟨(by omega), (by omega), sa_2, sb_2, CH_2⟩
 refine Cn (Qk (Qk (Qz (Qa (Ka (Wv O O ?_))))))
 refine Wz (Qo (Qx O O (Kw ?_)))
 exact ⟨O, CH_1⟩
theorem hand_SameFloats (SA SB : Nat → Prop) (A B : Option Addr) (n ca cb : Nat) (xs ys : List Nat) (w : World) (sa : SlR SA w A n 1 (xs.map flV)) (sb : SlR SB w B n 1 (ys.map flV)) (hs : ∀ i, i < n → cn (xs.getD i 0) = cn (ys.getD i 0)) (hn9 : n ≤ 17592186044416 := by omega) :
  Calls prog 40 #[.slice A n ca, .slice B n cb] w (Ret (fun v w' => v = .bool true ∧ Ch No w w')) := by
 refine Kt func40 O ntmps40 O (Ka (Wv O O (Wy (Qe ?_))))
 refine Qb (Wt O O (Om (Cr υ24 O) O (Wt O O (Om (Cr υ24 O) O (Om (Wg O O) O (Wz ?_))))))
 refine Qj O (fun hc1 => ?_) (fun hc1 => ?_)
 · omega
 refine Qm (Qa (Qe (Ka (Wt O O (Om (Cr υ24 O) O (Wt O O ?_))))))
 refine Wz (Qt (Ke (σ := Nat) (fun j => [(0, .slice A n ca), (1, .slice B n cb), (12, Kf n), (13, Kf j)]) (fun j w' => j ≤ n ∧ w.heap.size ≤ w'.heap.size ∧ SlR SA w' A n 1 (xs.map flV) ∧ SlR SB w' B n 1 (ys.map flV) ∧ Ch (No) w w') (fun j => n - j) 0 ?_ ?_))
 · exact ⟨(by omega), (Nat.le_refl _), sa, sb, (Ch.refl (No) w)⟩
 rintro j w1 ⟨hj, hsz1, sa_1, sb_1, CH_1⟩
 refine Ka (Om (Co O O) O (Wy (Qj O (fun hc2 => ?_) (fun hc2 => ?_))))
 ·
  refine Qm (Qa (Qe (Qt (Ka (Wt O O (Wv O O ?_))))))
  refine Wy ?_
  have hs9 := hs j (by omega)
  refine Ki 10 [0, 2, 4, 6, 8, 10, 12, 14, 17, 18] (No) ?_
  intro w2 c2 z2
  have sa_2 := sa_1.keep c2
  have sb_2 := sb_1.keep c2
  refine Wu O O (Wu O O (Ws (fun hS => Qs υ24 ς32 O O ((sa_2.keep hS).ne (by omega))) O (Ws (fun hS => Qg ι32 O ((sa_2.keep hS).getF (by omega))) O (Wu O O (Wu O O (Ws (fun hS => Qs υ24 ς32 O O ((sb_2.keep hS).ne (by omega))) O (Ws (fun hS => Qg ι32 O ((sb_2.keep hS).getF (by omega))) O ?_)))))))
  refine Hq (Qi call19 O (ref_SameT _ _ hs9 _)) O ?_
  rintro _ _ ⟨rfl, rfl⟩
  refine ⟨(Ch.refl (No) w2), ?_⟩
  refine Wq (Rl O) O (Ck (Qf (Ca (Qa (Cc O (Qm (Ql ?_)))))))
  refine Qa (Qb ?_)
  refine Om (Cd O O) O ?_
  refine Wt O O (Qf ?_)
  refine Kd (j + 1) ?_
  have CH_2 := CH_1.and c2
  exact ⟨(by omega), (by omega), sa_2, sb_2, CH_2⟩
 refine Cn (Qk (Qk (Qz (Qa (Ka (Wv O O ?_))))))
 refine Wz (Qo (Qx O O (Kw ?_)))
 exact ⟨O, CH_1⟩
theorem nat_Float (b : Int) (w : World) :
  Calls prog 76 #[.int .u64 b] w (Ret (fun v w' => v = .float .f64 (fcan b.toNat) ∧ w = w')) := by
 refine Kt func76 O ntmps76 O (Ka (Wv O O (Wx ?_)))
 refine Wt O O (Om (Wi func43 (by kernel_rfl) O (by kernel_rfl) (by kernel_rfl) O) O (Wv O O (Wy (Ka ?_))))
 refine Wt O O (Wt O O (Om (Rn.fneq O O) O (Wz (Cq O (fun hc1 => ?_) (fun hc1 => ?_)))))
 ·
  try simp only [bX] at hc1
  refine Ka (Om (Wi func43 (by kernel_rfl) O (by kernel_rfl) (by kernel_rfl) O) O (Wv O O (Wz (Qo (Qu ?_)))))
  refine Qx O O (Kw ?_)
  exact ⟨by unfold fcan; rw [if_pos hc1]; rfl, O⟩
 try simp only [bX] at hc1
 refine Qm (Qa (Ka (Wt O O (Wv O O (Wz ?_)))))
 refine Qo (Qx O O (Kw ?_))
 exact ⟨by unfold fcan; rw [if_neg (by rw [hc1]; decide)], O⟩
theorem law22_floats (SX : Nat → Prop) (X : Option Addr) (n xc : Nat) (bs : List Int) (w : World) (sx : SlR SX w X n 1 (bs.map UV)) (hX : ∀ q, SX q → q < w.heap.size) (hn : n ≤ 17592186044416 := by omega)  :
  Calls prog 36 #[.slice X n xc] w (Ret (fun v w' => ∃ r A c, v = .slice A n c ∧ FR 32 w' r A n c (flG bs) ∧ w.heap.size < r ∧ Ch No w w')) := by
 have hbl : bs.length = n := by have := sx.len; simpa using this
 refine Kt func36 O ntmps36 O (Ka (Wv O O (Wx ?_)))
 refine Kb (Wk.lit0 υ24 inf32w107) O ?_
 intro p1 w1 N1 c1 e1 z1
 have l6o := Ow.of_new (cs := []) (sz := 1) (l := 0) N1 rfl (by decide)
 refine Wv O O (Wy (Ka (Wt O O (Om (Cr υ22 O) O ?_))))
 refine Wt O O (Wz (Qt ?_))
 have sx_1 := sx.keep c1
 have CH_1 := c1
 refine Ke (σ := Nat × Nat × Option Addr × Nat) (fun (j, r2, A2, c2) => [(3, .slice A2 j c2), (7, .slice X n xc), (8, Kf n), (9, Kf j)]) (fun (j, r2, A2, c2) w' => j ≤ n ∧ w.heap.size < r2 ∧ w1.heap.size ≤ w'.heap.size ∧ Ow w' r2 32 1 A2 j c2 (((flG bs).take j).map flV) ∧ SlR SX w' X n 1 (bs.map UV) ∧ Ch (No) w w') (fun (j, r2, A2, c2) => n - j) (0, (p1 + 1), (Kh p1), 0) ?_ ?_
 · exact ⟨(by omega), (by omega), (Nat.le_refl _), l6o, sx_1, CH_1⟩
 rintro ⟨j, r2, A2, c2⟩ w2 ⟨hj, hr2, hsz2, row_2, sx_2, CH_2⟩
 refine Ka (Om (Co O O) O (Wy (Qj O (fun hc1 => ?_) (fun hc1 => ?_))))
 ·
  refine Qm (Qa (Qe (Qt (Ka (Om (Qs υ22 sizeOf74 O O (sx_2.ne (by omega))) O (Om (Qg isAgg74 O ((sx_2).getU (by omega) (by omega))) O ?_))))))
  refine Wv O O (Wz (Qb (Wt O O (Wt O O (Oq (Qi call76 O (nat_Float _ _)) O ?_)))))
  rintro _ _ ⟨rfl, rfl⟩
  refine Ko 1 1 (Kk υ24 inf32w107 O O) O ?_
  intro p3 w3 l16 l16o c3 e3 z3
  have row_3 := row_2.keep c3
  refine Oq (Cl (S := _) υ24 inf32w107 O (by decide) O O row_3 l16 (by rfl) (fun h => by simp at h) (by omega) (by simp only [maxLen]; omega)) O ?_
  rintro _ w4 ⟨r4, A4, k4, rfl, o4, c4, q4⟩
  have z4 := c4.size
  have y4 := o4.lt
  refine Wv O O (Qf (Ql (Qa (Qb ?_))))
  refine Om (Cd O O) O ?_
  refine Wt O O (Qf ?_)
  refine Kd (j + 1, r4, A4, k4) ?_
  have sx_3 := sx_2.keep c3
  have sx_4 := sx_3.to c4 (by first | exact fun _ _ _ _ => id | (intro q h1 h2 hx h3; have := hX q h2; omega))
  have CH_3 := CH_2.and c3
  have CH_4 : Ch (No) w w4 := CH_3.then c4
  exact ⟨(by omega), (by omega), (by omega), (by rw [flG_take (by omega)]; exact o4), sx_4, CH_4⟩
 refine Cn (Qk (Qk (Qz (Qa (Ka (Wt O O ?_))))))
 refine Wv O O (Wz (Qo (Qx O O (Kw ?_))))
 obtain rfl : j = n := by omega
 have o9 := row_2; rw [flG_all hbl] at o9
 exact ⟨_, _, _, O, o9, hr2, CH_2⟩
theorem law22_long (a : Int) (w : World) :
  Calls prog 35 #[Kf a] w (Ret (fun v w' => v = .bool (decide (700 < a ∧ a ≤ 4096)) ∧ w = w')) := by
 refine Kt func35 O ntmps35 O (Ka (Wv O O (Wx ?_)))
 refine Wt O O (Om (Rb O O) O (Wt O O (VO.split_if 5 O (fun hc1 => ?_) (fun hc1 => ?_))))
 ·
  refine Wt O O (Om (Rp O O) O (Om (Qq O O) O (Wv O O (Wz (Qo (Qx O O ?_))))))
  refine Kw ?_
  exact ⟨congrArg Value.bool (by rw [Bool.eq_iff_iff, decide_eq_true_eq, decide_eq_true_eq]; omega), O⟩
 refine Oy O (Oy O (Om (Qn O O) O (Wv O O (Wz (Qo (Qx O O ?_))))))
 refine Kw ?_
 exact ⟨congrArg Value.bool (decide_eq_false (by omega)).symm, O⟩
theorem hand_Equal (SA SB : Nat → Prop) (A B : Option Addr) (la lb ca cb : Nat) (xs ys : List CB) (w : World) (sa : SlR SA w A la 1 (xs.map cxV)) (sb : SlR SB w B lb 1 (ys.map cxV)) (hl : la = lb) (hl2 : la ≤ 1000000) (he : ∀ j, j < la → ceq (xs.getD j (0, 0)) (ys.getD j (0, 0)) = true) :
  Calls prog 75 #[.slice A la ca, .slice B lb cb] w (Ret (fun v w' => v = .bool true ∧ Ch No w w')) := by
 refine Kt func75 O ntmps75 O (Ka (Wv O O (Wy (Qe ?_))))
 refine Qb (Wt O O (Om (Cr υ31 O) O (Wt O O (Om (Cr υ31 O) O (Om (Wg O O) O (Wz ?_))))))
 refine Qj O (fun hc1 => ?_) (fun hc1 => ?_)
 · omega
 refine Qm (Qa (Qe (Ka (Wt O O (Om (Cr υ31 O) O (Wt O O ?_))))))
 refine Wz (Qt (Ke (σ := Nat) (fun j => [(0, .slice A la ca), (1, .slice B lb cb), (12, Kf la), (13, Kf j)]) (fun j w' => j ≤ la ∧ w.heap.size ≤ w'.heap.size ∧ SlR SA w' A la 1 (xs.map cxV) ∧ SlR SB w' B lb 1 (ys.map cxV) ∧ Ch (No) w w') (fun j => la - j) 0 ?_ ?_))
 · exact ⟨(by omega), (Nat.le_refl _), sa, sb, (Ch.refl (No) w)⟩
 rintro j w1 ⟨hj, hsz1, sa_1, sb_1, CH_1⟩
 refine Ka (Om (Co O O) O (Wy (Qj O (fun hc2 => ?_) (fun hc2 => ?_))))
 ·
  refine Qm (Qa (Qe (Qt (Ka (Wt O O (Wv O O ?_))))))
  refine Wy (Ki 9 [0, 2, 4, 6, 8, 10, 12, 14, 16] (No) ?_)
  intro w2 c2 z2
  have sa_2 := sa_1.keep c2
  have sb_2 := sb_1.keep c2
  refine Wu O O (Wu O O (Ws (fun hS => Qs υ31 ς33 O O ((sa_2.keep hS).ne (by omega))) O (Ws (fun hS => Qg ι33 O ((sa_2.keep hS).getC (by omega) (by omega))) O (Wu O O (Wu O O (Ws (fun hS => Qs υ31 ς33 O O ((sb_2.keep hS).ne (by omega))) O (Ws (fun hS => Qg ι33 O ((sb_2.keep hS).getC (by omega) (by omega))) O ?_)))))))
  refine Wq (Rn.cneqF O O (he j (by omega))) O (Ck (Qf (Ca (Qa (Cc O (Qm (Ql ?_)))))))
  refine Qa (Qb ?_)
  refine Om (Cd O O) O ?_
  refine Wt O O (Qf ?_)
  refine Kd (j + 1) ?_
  have CH_2 := CH_1.and c2
  exact ⟨(by omega), (by omega), sa_2, sb_2, CH_2⟩
 refine Cn (Qk (Qk (Qz (Qa (Ka (Wv O O ?_))))))
 refine Wz (Qo (Qx O O (Kw ?_)))
 exact ⟨O, CH_1⟩
set_option maxHeartbeats 2000000 in
theorem law22_lives (w : World) (st : StT w) (tab : TabB w.heap.size w) (hG : 24 ≤ w.heap.size := by omega) :
  Calls prog 34 #[] w (Ret (fun v w' => v = .bool true ∧ Ch No w w')) := by
 refine Kt func34 O ntmps34 O (Ka (Wv O O (Wx ?_)))
 refine Ko 1 4 (Kk υ24 inf32w107 O O) O ?_
 intro p1 w1 l6 l6o c1 e1 z1
 have st_1 := st.keep c1
 have tab_1 := tab.keep c1
 refine Oq (Qi κ37 O (half_ForwardB _ _ 4 _ l4 _ l6 (fun q hq => by omega) 2 O (by omega) (by omega) st_1 ((tab_1).up (by omega)) (by omega))) O ?_
 rintro _ w2 ⟨q2, zs2, rfl, hf2, hl2, e2, c2⟩
 have yl2 := Ow.lt hf2
 have z2 := c2.size
 refine Wt O O (Om (Qw O O) O (Om (Qw O O) O (Wv O O (Wv O O (Wy ?_)))))
 refine Qb (Ko 1 3 (Kk υ31 inf33w107 O O) O ?_)
 intro p3 w3 l11 l11o c3 e3 z3
 have st_3 := st_1.keep (c2.trans c3)
 have tab_3 := tab_1.keep (c2.trans c3)
 refine Oq (Qi call74 O (half_Inv3 _ _ _ h3 _ l11 (fun q hq => by omega) st_3 ((tab_3).up (by omega)) (by omega))) O ?_
 rintro _ w4 ⟨r4, A4, k4, zs4, rfl, hi4, hv4, us4, e4, c4⟩
 have yl4 := Ow.lt hi4
 have z4 := c4.size
 refine Wt O O (Om (Qw O O) O (Om (Qw O O) O (Wv O O (Wv O O (Wy ?_)))))
 refine Qb (Wt O O (Om (Wb υ28 O) O (Wt O O (Wt O O (Om (Wb υ28 O) O (Om (Qq O O) O (Wt O O ?_)))))))
 refine Wt O O (Ko 1 3 (Kk υ31 inf33w107 O O) O ?_)
 intro p5 w5 l23 l23o c5 e5 z5
 have hf_5 := hf2.keep (c3.trans (c4.trans c5))
 refine Oq (Qi call75 O (hand_Equal _ _ _ _ 3 3 _ _ zs2 h3 _ (hf_5).sl l23 O (by omega) (fun j hj => livesF us4 (hl2).get j hj))) O ?_
 rintro _ w6 ⟨rfl, c6⟩
 have z6 := c6.size
 refine Om (Qq O O) O (Wt O O (Wt O O (Om (Cr υ24 O) O (Om (Rn.eqlT O O (by omega)) O (Om (Qq O O) O (Wt O O (Wt O O ?_)))))))
 have hi_6 := hi4.keep (c5.trans c6)
 refine Om (Qs υ24 ς32 O O (hi_6.sl.ne (by omega))) O (Om (Qg ι32 O (hi_6.sl.getF (by omega))) O (Om (Rn.feqlT O O (feq_const ((livesI us4 hv4).1) (by kernel_rfl) (by kernel_rfl))) O (Om (Qq O O) O (Wt O O (Wt O O (Om (Qs υ24 ς32 O O (hi_6.sl.ne (by omega))) O (Om (Qg ι32 O (hi_6.sl.getF (by omega))) O ?_)))))))
 refine Om (Rn.feqlT O O (feq_const ((livesI us4 hv4).2) (by kernel_rfl) (by kernel_rfl))) O (Om (Qq O O) O (Wv O O (Wz (Qo (Qx O O (Kw ?_))))))
 have CH_6 := (c1.trans (c2.trans (c3.trans (c4.trans (c5.trans c6)))))
 exact ⟨O, CH_6⟩
end Go.Tm
namespace Go.Tm
set_option maxRecDepth 100000
open Go.RowKit Go.Proofs Go.Proofs.Tryz
theorem inf32w108 : Inf prog 32 (.float .f64 0) 1 8 := ⟨Tryz.t32, type32, rfl, rfl, rfl⟩
theorem half_ForwardX (X : Option Addr) (n xc : Nat)  (B : Nat) (E : Nat → Addr) (w : World) (hn1 : n = 0 ∨ (n % 2 = 1 ∧ n ≠ 1) ∨ 4096 < n) (er : ErrT B E w) :
  Calls prog 37 #[.slice X n xc] w (Ret (fun v w' => v = .tuple #[.slice none 0 0, errV E 0] ∧ Ch No w w')) := by
 refine Kt func37 O ntmps37 O (Ka (Wv O O (Wv O O (Wy ?_))))
 refine Qb (Wt O O (Om (Cr υ24 O) O (Wv O O (Wy (Qe ?_)))))
 refine Qb (Wt O O (Om (Cf O O) O (Wz (Qj O (fun hc1 => ?_) (fun hc1 => ?_)))))
 · omega
 refine Qm (Qa (Qe (Ka (Wt O O (Om (Cf O O) O (Wt O O ?_))))))
 refine Ra (b := _) 4 28 32 O (fun hc2 Jhc2 => by
   refine Oy O (Oy O (Oy O (Om (Qq O O) O ?_)))
   exact (Qp O (Qp O (Qp O Jhc2)))) (fun hc2 Jhc2 => by
   try simp only [bX] at hc2
   refine Wt O O (Om (Rm O O) O (Om (Wg O O) O (Om (Qn O O) O ?_)))
   exact (Qp O (Qp O (Qp O Jhc2)))) ?_
 refine Wt O O ?_
 refine Ra (b := _) 3 33 36 O (fun hc3 Jhc3 => by
   refine Oy O (Oy O (Om (Qq O O) O ?_))
   exact (Qp O (Qp O Jhc3))) (fun hc3 Jhc3 => by
   try simp only [bX] at hc3
   refine Wt O O (Om (Rb O O) O (Om (Qn O O) O ?_))
   exact (Qp O (Qp O Jhc3))) ?_
 refine Wz (Cq O (fun hc4 => ?_) (fun hc4 => ?_))
 ·
  try simp only [bX] at hc4
  refine Qe (Ki 2 [0, 2] (No) ?_)
  intro w1 c1 z1
  have er_1 := er.keep c1
  refine Ws (fun hS => Qg ι28 O ((er_1.keep hS).get 0 (by decide))) O (Ww O O (Ck (Wv O O (Qf (Ca (Qa (Qo ?_)))))))
  refine Qu (Cz O O O (Kw ?_))
  have CH_1 := c1
  exact ⟨O, CH_1⟩
 try simp only [bX] at hc4
 omega
theorem ref22_ForwardX (X : Option Addr) (n xc : Nat) (w : World) (hn1 : n = 0 ∨ (n % 2 = 1 ∧ n ≠ 1) ∨ 4096 < n) :
  Calls prog 38 #[.slice X n xc] w (Ret (fun v w' => v = .tuple #[.slice none 0 0, Kf 7] ∧ Ch No w w')) := by
 refine Kt func38 O ntmps38 O (Ka (Wv O O (Wv O O (Wy ?_))))
 refine Qb (Wt O O (Om (Cr υ24 O) O (Wv O O (Wy (Qe ?_)))))
 refine Qb (Wt O O (Om (Cf O O) O (Wz (Qj O (fun hc1 => ?_) (fun hc1 => ?_)))))
 · omega
 refine Qm (Qa (Qe (Ka (Wt O O (Om (Co O O) O (Wt O O ?_))))))
 refine Ra (b := _) 3 25 28 O (fun hc2 Jhc2 => by
   refine Oy O (Oy O (Om (Qq O O) O ?_))
   exact (Qp O (Qp O Jhc2))) (fun hc2 Jhc2 => by
   try simp only [bX] at hc2
   refine Wt O O (Om (Rb O O) O (Om (Qn O O) O ?_))
   exact (Qp O (Qp O Jhc2))) ?_
 refine Wt O O ?_
 refine Ra (b := _) 4 29 33 O (fun hc3 Jhc3 => by
   refine Oy O (Oy O (Oy O (Om (Qq O O) O ?_)))
   exact (Qp O (Qp O (Qp O Jhc3)))) (fun hc3 Jhc3 => by
   try simp only [bX] at hc3
   refine Wt O O (Om (Rm O O) O (Om (Cf O O) O (Om (Qn O O) O ?_)))
   exact (Qp O (Qp O (Qp O Jhc3)))) ?_
 refine Wz (Cq O (fun hc4 => ?_) (fun hc4 => ?_))
 ·
  try simp only [bX] at hc4
  refine Ka (Wv O O (Wv O O (Wz (Qo (Qu ?_)))))
  refine Cz O O O (Kw ?_)
  exact ⟨O, (Ch.refl (No) w)⟩
 try simp only [bX] at hc4
 omega
set_option maxHeartbeats 2000000 in
theorem law_HF_one (SX : Nat → Prop) (X : Option Addr) (n xc : Nat) (bs : List Int) (w : World) (sx : SlR SX w X n 1 (bs.map UV)) (hX : ∀ q, SX q → q < w.heap.size) (hn : n ≤ 17592186044404) (h1 : n = 1) (st : StT w) (tab : TabB w.heap.size w) (hG : 24 ≤ w.heap.size) :
  Calls prog 9 #[.slice X n xc] w (Ret (fun v w' => v = .bool true ∧ Ch No w w')) := by
 have hbl : (flG bs).length = n := by rw [flG_len]; have := sx.len; simpa using this
 refine Kt func9 O ntmps9 O (Ka (Wv O O (Wx ?_)))
 refine Oq (Qi κ34 O (law22_lives _ st ((tab).up (by omega)))) O ?_
 rintro _ w1 ⟨rfl, c1⟩
 have z1 := c1.size
 refine Wv O O (Wy (Ka (Wt O O (Om (Rl O) O ?_))))
 refine Wt O O (Wt O O (Om (Cr υ22 O) O (Oq (Qi κ35 O (law22_long _ _)) O ?_)))
 rintro _ _ ⟨rfl, rfl⟩
 refine Om (Qn O O) O (Wz (Qj O (fun hc1 => ?_) (fun hc1 => ?_)))
 · omega
 refine Qm (Qa (Ka (Wt O O ?_)))
 have sx_1 := sx.keep c1
 refine Oq (Qi κ36 O (law22_floats _ _ _ _ bs _ sx_1 (fun q hq => by have := hX q hq; omega))) O ?_
 rintro _ w2 ⟨r2, A2, k2, rfl, fl2, yr2, c2⟩
 have yl2 := Ow.lt fl2
 have z2 := c2.size
 refine Wv O O (Wx (Wt O O ?_))
 have sx_2 := sx_1.keep c2
 refine Oq (Qi κ36 O (law22_floats _ _ _ _ bs _ sx_2 (fun q hq => by have := hX q hq; omega))) O ?_
 rintro _ w3 ⟨r3, A3, k3, rfl, fx3, yr3, c3⟩
 have yl3 := Ow.lt fx3
 have z3 := c3.size
 refine Ko 1 1 (Kk υ24 inf32w108 O O) O ?_
 intro p4 w4 l24 l24o c4 e4 z4
 have fx_4 := fx3.keep c4
 refine Oq (Cl (S := _) υ24 inf32w108 O (by decide) O O fx_4 l24 (by rfl) (fun h => by simp at h) (by omega) (by simp only [maxLen]; omega)) O ?_
 rintro _ w5 ⟨r5, A5, k5, rfl, o5, c5, q5⟩
 have z5 := c5.size
 have y5 := o5.lt
 refine Wv O O (Wy ?_)
 have hcap := Ow.cap o5
 have rw9 : FR 32 w5 r5 A5 (n + 1) k5 (flG bs ++ [4635118810238550016]) := (by show Ow _ _ _ _ _ _ _ (List.map flV (_ ++ _)); rw [List.map_append]; exact o5)
 have mi := SlR.preF rw9.sl hbl
 refine Qb (Wt O O (Wt O O (Om (Cr υ24 O) O (Om (Rn.sliceHi υ24 ς32 O O (by omega) (by omega)) O (Wv O O (Wz ?_))))))
 refine Ka (Wt O O ?_)
 have st_4 := st.keep (c1.trans (c2.trans (c3.trans c4)))
 have st_5 := st_4.to c5
 have tab_4 := tab.keep (c1.trans (c2.trans (c3.trans c4)))
 have tab_5 := tab_4.to c5
 refine Oq (Qi κ37 O (half_ForwardA _ _ n _ (flG bs) _ mi (fun q hq => by omega) h1 st_5 ((tab_5).up (by omega)) (by omega))) O ?_
 rintro _ w6 ⟨q6, zs6, rfl, hf6, hl6, e6, c6⟩
 have yl6 := Ow.lt hf6
 have z6 := c6.size
 refine Wt O O (Om (Qw O O) O (Om (Qw O O) O (Wv O O (Wv O O (Wy ?_)))))
 refine Qb (Wt O O ?_)
 have fl_4 := fl2.keep (c3.trans c4)
 have fl_5 := fl_4.to c5
 have fl_6 := fl_5.keep c6
 refine Oq (Qi call38 O (ref22_ForwardA _ _ n _ (flG bs) _ (fl_6).sl (fun q hq => by omega) h1)) O ?_
 rintro _ w7 ⟨r7, A7, k7, zr7, rfl, zz7, hz7, yr7, c7⟩
 have yl7 := Ow.lt zz7
 have z7 := c7.size
 refine Wt O O (Om (Qw O O) O (Om (Qw O O) O (Wv O O (Wv O O (Wy ?_)))))
 refine Qb (Wt O O (Wt O O ?_))
 have hf_7 := hf6.keep c7
 refine Oq (Qi call39 O (hand_SameList _ _ _ _ _ _ _ _ _ _ (hf_7).sl (zz7).sl (fun i hi => (hl6.get i (by omega)).trans (hz7.get i (by omega)).symm))) O ?_
 rintro _ w8 ⟨rfl, c8⟩
 have z8 := c8.size
 refine Wt O O (Wt O O (Oq (Qi call30 O (num_nil _)) O ?_))
 rintro _ _ ⟨rfl, rfl⟩
 refine Wt O O (Om (Rn.eqlT O O O) O (Om (Qq O O) O (Wt O O (Wt O O (Wt O O ?_)))))
 have mi_8 := mi.keep (c6.trans (c7.trans c8))
 have fl_8 := fl_6.keep (c7.trans c8)
 refine Oq (Qi call40 O (hand_SameFloats _ _ _ _ _ _ _ _ _ _ mi_8 (fl_8).sl (fun _ _ => rfl))) O ?_
 rintro _ w9 ⟨rfl, c9⟩
 have z9 := c9.size
 refine Om (Qq O O) O (Wt O O (Wt O O (Wt O O (Om (Cr υ24 O) O ?_))))
 have row_9 := o5.keep (c6.trans (c7.trans (c8.trans c9)))
 refine Om (Qs υ24 ς32 O O (row_9.sl.ne (by omega))) O ?_
 have rw9_9 := rw9.keep (c6.trans (c7.trans (c8.trans c9)))
 refine Om (Qg ι32 O ((rw9_9).sl.getF (by omega))) O (Om (Rn.feqlT O O (feq_const (congrArg cn (app_get hbl)) (by kernel_rfl) (by kernel_rfl))) O (Om (Qq O O) O (Wv O O (Wz (Qo (Qx O O ?_))))))
 refine Kw ?_
 have CH_4 := (c1.trans (c2.trans (c3.trans c4)))
 have CH_5 : Ch (No) w w5 := CH_4.then c5
 have CH_9 := CH_5.and (c6.trans (c7.trans (c8.trans c9)))
 exact ⟨O, CH_9⟩
set_option maxHeartbeats 2000000 in
theorem law_HF_two (SX : Nat → Prop) (X : Option Addr) (n xc : Nat) (bs : List Int) (w : World) (sx : SlR SX w X n 1 (bs.map UV)) (hX : ∀ q, SX q → q < w.heap.size) (hn : n ≤ 17592186044404) (h : Nat) (hn2 : n = 2 * h) (hh : 1 ≤ h) (hh2 : h ≤ 350) (st : StT w) (tab : TabB w.heap.size w) (hG : 24 ≤ w.heap.size) :
  Calls prog 9 #[.slice X n xc] w (Ret (fun v w' => v = .bool true ∧ Ch No w w')) := by
 have hbl : (flG bs).length = n := by rw [flG_len]; have := sx.len; simpa using this
 refine Kt func9 O ntmps9 O (Ka (Wv O O (Wx ?_)))
 refine Oq (Qi κ34 O (law22_lives _ st ((tab).up (by omega)))) O ?_
 rintro _ w1 ⟨rfl, c1⟩
 have z1 := c1.size
 refine Wv O O (Wy (Ka (Wt O O (Om (Rl O) O ?_))))
 refine Wt O O (Wt O O (Om (Cr υ22 O) O (Oq (Qi κ35 O (law22_long _ _)) O ?_)))
 rintro _ _ ⟨rfl, rfl⟩
 refine Om (Qn O O) O (Wz (Qj O (fun hc1 => ?_) (fun hc1 => ?_)))
 · omega
 refine Qm (Qa (Ka (Wt O O ?_)))
 have sx_1 := sx.keep c1
 refine Oq (Qi κ36 O (law22_floats _ _ _ _ bs _ sx_1 (fun q hq => by have := hX q hq; omega))) O ?_
 rintro _ w2 ⟨r2, A2, k2, rfl, fl2, yr2, c2⟩
 have yl2 := Ow.lt fl2
 have z2 := c2.size
 refine Wv O O (Wx (Wt O O ?_))
 have sx_2 := sx_1.keep c2
 refine Oq (Qi κ36 O (law22_floats _ _ _ _ bs _ sx_2 (fun q hq => by have := hX q hq; omega))) O ?_
 rintro _ w3 ⟨r3, A3, k3, rfl, fx3, yr3, c3⟩
 have yl3 := Ow.lt fx3
 have z3 := c3.size
 refine Ko 1 1 (Kk υ24 inf32w108 O O) O ?_
 intro p4 w4 l24 l24o c4 e4 z4
 have fx_4 := fx3.keep c4
 refine Oq (Cl (S := _) υ24 inf32w108 O (by decide) O O fx_4 l24 (by rfl) (fun h => by simp at h) (by omega) (by simp only [maxLen]; omega)) O ?_
 rintro _ w5 ⟨r5, A5, k5, rfl, o5, c5, q5⟩
 have z5 := c5.size
 have y5 := o5.lt
 refine Wv O O (Wy ?_)
 have hcap := Ow.cap o5
 have rw9 : FR 32 w5 r5 A5 (n + 1) k5 (flG bs ++ [4635118810238550016]) := (by show Ow _ _ _ _ _ _ _ (List.map flV (_ ++ _)); rw [List.map_append]; exact o5)
 have mi := SlR.preF rw9.sl hbl
 refine Qb (Wt O O (Wt O O (Om (Cr υ24 O) O (Om (Rn.sliceHi υ24 ς32 O O (by omega) (by omega)) O (Wv O O (Wz ?_))))))
 refine Ka (Wt O O ?_)
 have st_4 := st.keep (c1.trans (c2.trans (c3.trans c4)))
 have st_5 := st_4.to c5
 have tab_4 := tab.keep (c1.trans (c2.trans (c3.trans c4)))
 have tab_5 := tab_4.to c5
 refine Oq (Qi κ37 O (half_ForwardB _ _ n _ (flG bs) _ mi (fun q hq => by omega) h hn2 hh (by omega) st_5 ((tab_5).up (by omega)) (by omega))) O ?_
 rintro _ w6 ⟨q6, zs6, rfl, hf6, hl6, e6, c6⟩
 have yl6 := Ow.lt hf6
 have z6 := c6.size
 refine Wt O O (Om (Qw O O) O (Om (Qw O O) O (Wv O O (Wv O O (Wy ?_)))))
 refine Qb (Wt O O ?_)
 have fl_4 := fl2.keep (c3.trans c4)
 have fl_5 := fl_4.to c5
 have fl_6 := fl_5.keep c6
 refine Oq (Qi call38 O (ref22_ForwardB _ _ n _ (flG bs) _ (fl_6).sl (fun q hq => by omega) h hn2 hh (by omega))) O ?_
 rintro _ w7 ⟨r7, A7, k7, zr7, rfl, zz7, hz7, yr7, c7⟩
 have yl7 := Ow.lt zz7
 have z7 := c7.size
 refine Wt O O (Om (Qw O O) O (Om (Qw O O) O (Wv O O (Wv O O (Wy ?_)))))
 refine Qb (Wt O O (Wt O O ?_))
 have hf_7 := hf6.keep c7
 refine Oq (Qi call39 O (hand_SameList _ _ _ _ _ _ _ _ _ _ (hf_7).sl (zz7).sl (fun i hi => (hl6.get i (by omega)).trans (hz7.get i (by omega)).symm))) O ?_
 rintro _ w8 ⟨rfl, c8⟩
 have z8 := c8.size
 refine Wt O O (Wt O O (Oq (Qi call30 O (num_nil _)) O ?_))
 rintro _ _ ⟨rfl, rfl⟩
 refine Wt O O (Om (Rn.eqlT O O O) O (Om (Qq O O) O (Wt O O (Wt O O (Wt O O ?_)))))
 have mi_8 := mi.keep (c6.trans (c7.trans c8))
 have fl_8 := fl_6.keep (c7.trans c8)
 refine Oq (Qi call40 O (hand_SameFloats _ _ _ _ _ _ _ _ _ _ mi_8 (fl_8).sl (fun _ _ => rfl))) O ?_
 rintro _ w9 ⟨rfl, c9⟩
 have z9 := c9.size
 refine Om (Qq O O) O (Wt O O (Wt O O (Wt O O (Om (Cr υ24 O) O ?_))))
 have row_9 := o5.keep (c6.trans (c7.trans (c8.trans c9)))
 refine Om (Qs υ24 ς32 O O (row_9.sl.ne (by omega))) O ?_
 have rw9_9 := rw9.keep (c6.trans (c7.trans (c8.trans c9)))
 refine Om (Qg ι32 O ((rw9_9).sl.getF (by omega))) O (Om (Rn.feqlT O O (feq_const (congrArg cn (app_get hbl)) (by kernel_rfl) (by kernel_rfl))) O (Om (Qq O O) O (Wv O O (Wz (Qo (Qx O O ?_))))))
 refine Kw ?_
 have CH_4 := (c1.trans (c2.trans (c3.trans c4)))
 have CH_5 : Ch (No) w w5 := CH_4.then c5
 have CH_9 := CH_5.and (c6.trans (c7.trans (c8.trans c9)))
 exact ⟨O, CH_9⟩
theorem law_HF_mid (SX : Nat → Prop) (X : Option Addr) (n xc : Nat) (bs : List Int) (w : World) (sx : SlR SX w X n 1 (bs.map UV)) (hX : ∀ q, SX q → q < w.heap.size) (hn : n ≤ 17592186044404) (h1 : 700 < n ∧ n ≤ 4096) (st : StT w) (tab : TabB w.heap.size w) (hG : 24 ≤ w.heap.size) :
  Calls prog 9 #[.slice X n xc] w (Ret (fun v w' => v = .bool true ∧ Ch No w w')) := by
 refine Kt func9 O ntmps9 O (Ka (Wv O O (Wx ?_)))
 refine Oq (Qi κ34 O (law22_lives _ st ((tab).up (by omega)))) O ?_
 rintro _ w1 ⟨rfl, c1⟩
 have z1 := c1.size
 refine Wv O O (Wy (Ka (Wt O O (Om (Rl O) O ?_))))
 refine Wt O O (Wt O O (Om (Cr υ22 O) O (Oq (Qi κ35 O (law22_long _ _)) O ?_)))
 rintro _ _ ⟨rfl, rfl⟩
 refine Om (Qn O O) O (Wz (Qj O (fun hc1 => ?_) (fun hc1 => ?_)))
 ·
  refine Ka (Wt O O (Wv O O (Wz (Qo (Qu ?_)))))
  refine Qx O O (Kw ?_)
  have CH_1 := c1
  exact ⟨O, CH_1⟩
 omega
set_option maxHeartbeats 2000000 in
theorem law_HF_bad (SX : Nat → Prop) (X : Option Addr) (n xc : Nat) (bs : List Int) (w : World) (sx : SlR SX w X n 1 (bs.map UV)) (hX : ∀ q, SX q → q < w.heap.size) (hn : n ≤ 17592186044404) (hn1 : n = 0 ∨ (n % 2 = 1 ∧ n ≠ 1) ∨ 4096 < n) (B : Nat) (E : Nat → Addr) (hB : B ≤ w.heap.size) (er : ErrT B E w) (st : StT w) (tab : TabB w.heap.size w) (hG : 24 ≤ w.heap.size) :
  Calls prog 9 #[.slice X n xc] w (Ret (fun v w' => v = .bool true ∧ Ch No w w')) := by
 have hbl : (flG bs).length = n := by rw [flG_len]; have := sx.len; simpa using this
 refine Kt func9 O ntmps9 O (Ka (Wv O O (Wx ?_)))
 refine Oq (Qi κ34 O (law22_lives _ st ((tab).up (by omega)))) O ?_
 rintro _ w1 ⟨rfl, c1⟩
 have z1 := c1.size
 refine Wv O O (Wy (Ka (Wt O O (Om (Rl O) O ?_))))
 refine Wt O O (Wt O O (Om (Cr υ22 O) O (Oq (Qi κ35 O (law22_long _ _)) O ?_)))
 rintro _ _ ⟨rfl, rfl⟩
 refine Om (Qn O O) O (Wz (Qj O (fun hc1 => ?_) (fun hc1 => ?_)))
 ·
  refine Ka (Wt O O (Wv O O (Wz (Qo (Qu ?_)))))
  refine Qx O O (Kw ?_)
  have CH_1 := c1
  exact ⟨O, CH_1⟩
 refine Qm (Qa (Ka (Wt O O ?_)))
 have sx_1 := sx.keep c1
 refine Oq (Qi κ36 O (law22_floats _ _ _ _ bs _ sx_1 (fun q hq => by have := hX q hq; omega))) O ?_
 rintro _ w2 ⟨r2, A2, k2, rfl, fl2, yr2, c2⟩
 have yl2 := Ow.lt fl2
 have z2 := c2.size
 refine Wv O O (Wx (Wt O O ?_))
 have sx_2 := sx_1.keep c2
 refine Oq (Qi κ36 O (law22_floats _ _ _ _ bs _ sx_2 (fun q hq => by have := hX q hq; omega))) O ?_
 rintro _ w3 ⟨r3, A3, k3, rfl, fx3, yr3, c3⟩
 have yl3 := Ow.lt fx3
 have z3 := c3.size
 refine Ko 1 1 (Kk υ24 inf32w108 O O) O ?_
 intro p4 w4 l24 l24o c4 e4 z4
 have fx_4 := fx3.keep c4
 refine Oq (Cl (S := _) υ24 inf32w108 O (by decide) O O fx_4 l24 (by rfl) (fun h => by simp at h) (by omega) (by simp only [maxLen]; omega)) O ?_
 rintro _ w5 ⟨r5, A5, k5, rfl, o5, c5, q5⟩
 have z5 := c5.size
 have y5 := o5.lt
 refine Wv O O (Wy ?_)
 have hcap := Ow.cap o5
 have rw9 : FR 32 w5 r5 A5 (n + 1) k5 (flG bs ++ [4635118810238550016]) := (by show Ow _ _ _ _ _ _ _ (List.map flV (_ ++ _)); rw [List.map_append]; exact o5)
 have mi := SlR.preF rw9.sl hbl
 refine Qb (Wt O O (Wt O O (Om (Cr υ24 O) O (Om (Rn.sliceHi υ24 ς32 O O (by omega) (by omega)) O (Wv O O (Wz ?_))))))
 refine Ka (Wt O O ?_)
 have er_4 := er.keep (c1.trans (c2.trans (c3.trans c4)))
 have er_5 := er_4.to c5
 refine Oq (Qi κ37 O (half_ForwardX _ n _ B E _ hn1 er_5)) O ?_
 rintro _ w6 ⟨rfl, c6⟩
 have z6 := c6.size
 refine Wt O O (Om (Qw O O) O (Om (Qw O O) O (Wv O O (Wv O O (Wy ?_)))))
 refine Qb (Wt O O (Oq (Qi call38 O (ref22_ForwardX _ n _ _ hn1)) O ?_))
 rintro _ w7 ⟨rfl, c7⟩
 have z7 := c7.size
 refine Wt O O (Om (Qw O O) O (Om (Qw O O) O (Wv O O (Wv O O (Wy ?_)))))
 refine Qb (Wt O O (Wt O O (Oq (Qi call39 O (hand_SameList (fun _ => True) (fun _ => True) none none 0 0 0 [] [] _ (SlR.nil _ _ _) (SlR.nil _ _ _) (fun _ h => absurd h (by omega)))) O ?_)))
 rintro _ w8 ⟨rfl, c8⟩
 have z8 := c8.size
 refine Wt O O (Wt O O ?_)
 have er_8 := er_5.keep (c6.trans (c7.trans c8))
 refine Oq (Qi call30 O (num_err B E 0 6 O (by decide) _ er_8)) O ?_
 rintro _ w9 ⟨rfl, c9⟩
 have z9 := c9.size
 refine Wt O O (Om (Rn.eqlT O O O) O (Om (Qq O O) O (Wt O O (Wt O O (Wt O O ?_)))))
 have mi_9 := mi.keep (c6.trans (c7.trans (c8.trans c9)))
 have fl_4 := fl2.keep (c3.trans c4)
 have fl_5 := fl_4.to c5
 have fl_9 := fl_5.keep (c6.trans (c7.trans (c8.trans c9)))
 refine Oq (Qi call40 O (hand_SameFloats _ _ _ _ _ _ _ _ _ _ mi_9 (fl_9).sl (fun _ _ => rfl))) O ?_
 rintro _ w10 ⟨rfl, c10⟩
 have z10 := c10.size
 refine Om (Qq O O) O (Wt O O (Wt O O (Wt O O (Om (Cr υ24 O) O ?_))))
 have row_10 := o5.keep (c6.trans (c7.trans (c8.trans (c9.trans c10))))
 refine Om (Qs υ24 ς32 O O (row_10.sl.ne (by omega))) O ?_
 have rw9_10 := rw9.keep (c6.trans (c7.trans (c8.trans (c9.trans c10))))
 refine Om (Qg ι32 O ((rw9_10).sl.getF (by omega))) O (Om (Rn.feqlT O O (feq_const (congrArg cn (app_get hbl)) (by kernel_rfl) (by kernel_rfl))) O (Om (Qq O O) O (Wv O O (Wz (Qo (Qx O O ?_))))))
 refine Kw ?_
 have CH_4 := (c1.trans (c2.trans (c3.trans c4)))
 have CH_5 : Ch (No) w w5 := CH_4.then c5
 have CH_10 := CH_5.and (c6.trans (c7.trans (c8.trans (c9.trans c10))))
 exact ⟨O, CH_10⟩
theorem law_HF (SX : Nat → Prop) (X : Option Addr) (n xc : Nat) (bs : List Int) (w : World) (sx : SlR SX w X n 1 (bs.map UV)) (hX : ∀ q, SX q → q < w.heap.size) (hn : n ≤ 17592186044404)  (B : Nat) (E : Nat → Addr) (hB : B ≤ w.heap.size) (er : ErrT B E w) (st : StT w) (tab : TabB w.heap.size w) (hG : 24 ≤ w.heap.size) : Calls prog 9 #[.slice X n xc] w (Ret (fun v w' => v = .bool true ∧ Ch No w w')) := by
 by_cases h1 : n = 1
 · exact law_HF_one SX X n xc bs w sx hX hn h1 st tab hG
 by_cases h2 : n = 0 ∨ (n % 2 = 1 ∧ n ≠ 1) ∨ 4096 < n
 · exact law_HF_bad SX X n xc bs w sx hX hn h2 B E hB er st tab hG
 by_cases h3 : n ≤ 700
 · exact law_HF_two SX X n xc bs w sx hX hn (n / 2) (by omega) (by omega) (by omega) st tab hG
 · exact law_HF_mid SX X n xc bs w sx hX hn (by omega) st tab hG
end Go.Tm
namespace Go.Tm
set_option maxRecDepth 100000
open Go.RowKit Go.Proofs Go.ChangeShapes Go.WideShapes Go.Deep Go.Proofs.Tryz
open Go.Proofs.YtpfglkohcfjelaaGreatDoor
theorem laidVars_at {P : Program} {w : World} : ∀ {l : List (String × DataW Unit)} {ps : List MemPlace} (i : Nat) {x : String × DataW Unit}, DataW.LaidVars P w l ps → l[i]? = some x → ∃ ps', DataW.LaidVars P w [x] ps' ∧ ps'.Sublist ps
 | [], _, _, _, _, h => by simp at h
 | (n, d) :: r, ps, 0, x, h, hi => by
  obtain ⟨g, t, cs, fuel, p, q, e1, e2, e3, e4, hr, rfl⟩ := h
  simp only [List.getElem?_cons_zero, Option.some.injEq] at hi
  subst hi
  exact ⟨_, ⟨g, t, cs, fuel, p, [], e1, e2, e3, e4, O, O⟩, by rw [List.append_nil]; exact List.sublist_append_left _ _⟩
 | (n, d) :: r, ps, i + 1, x, h, hi => by
  obtain ⟨g, t, cs, fuel, p, q, e1, e2, e3, e4, hr, rfl⟩ := h
  obtain ⟨ps', h1, h2⟩ := laidVars_at i hr (by simpa using hi)
  exact ⟨ps', h1, h2.trans (List.sublist_append_right _ _)⟩
theorem _root_.Go.laidMet.at {P : Program} {w : World} {l : List (String × DataW Unit)} {x : String × DataW Unit} (h : laidMet P l w) (i : Nat) (hi : l[i]? = some x) : laidMet P [x] w := by
 obtain ⟨ps, hl, hnd, hrows⟩ := h
 obtain ⟨ps', h1, h2⟩ := laidVars_at i hl hi
 exact ⟨ps', h1, h2.nodup hnd, fun b off hp => hrows b off (h2.subset hp)⟩
noncomputable abbrev laidL : List (String × DataW Unit) := Rows.halfForwardRow.laid
theorem lowStar : "*" ++ "errors.errorString" = "*errors.errorString" := by decide
theorem rowErr (u : TypeId) (h : Tryz.prog.typeName? 3 u = some "*errors.errorString") : u = 321 :=
 typeName_ptr_named (nm := "errors.errorString") (by rw [lowStar]; kernel_rfl) (by kernel_rfl) (by decide) u (by rw [lowStar]; exact h)
def errTx : Nat → List UInt8
 | 0 => [116, 105, 109, 98, 114, 101, 58, 32, 108, 101, 110, 103, 116, 104]
 | 2 => [116, 105, 109, 98, 114, 101, 58, 32, 109, 111, 100, 101]
 | 3 => [116, 105, 109, 98, 114, 101, 58, 32, 116, 111, 111, 32, 115, 104, 111, 114, 116]
 | 4 => [116, 105, 109, 98, 114, 101, 58, 32, 118, 97, 114, 105, 110, 116]
 | 5 => [116, 105, 109, 98, 114, 101, 58, 32, 108, 105, 109, 105, 116]
 | 6 => [116, 105, 109, 98, 114, 101, 58, 32, 116, 97, 105, 108]
 | 7 => [116, 105, 109, 98, 114, 101, 58, 32, 114, 97, 110, 103, 101]
 | 8 => [116, 105, 109, 98, 114, 101, 58, 32, 116, 101, 120, 116]
 | 9 => [116, 105, 109, 98, 114, 101, 58, 32, 111, 114, 100, 101, 114]
 | 10 => [116, 105, 109, 98, 114, 101, 58, 32, 112, 114, 111, 103, 114, 97, 109]
 | 11 => [116, 105, 109, 98, 114, 101, 58, 32, 115, 116, 97, 116, 101]
 | 12 => [116, 105, 109, 98, 114, 101, 58, 32, 114, 111, 111, 116]
 | 13 => [116, 105, 109, 98, 114, 101, 58, 32, 112, 101, 114, 109, 117, 116, 97, 116, 105, 111, 110]
 | 14 => [116, 105, 109, 98, 114, 101, 58, 32, 110, 117, 109, 98, 101, 114]
 | 15 => [116, 105, 109, 98, 114, 101, 58, 32, 119, 111, 114, 107, 101, 114, 115]
 | 16 => [116, 105, 109, 98, 114, 101, 58, 32, 100, 111, 110, 101]
 | 17 => [116, 105, 109, 98, 114, 101, 58, 32, 117, 110, 107, 110, 111, 119, 110]
 | 18 => [116, 105, 109, 98, 114, 101, 58, 32, 99, 111, 109, 109, 97, 110, 100]
 | 19 => [116, 105, 109, 98, 114, 101, 58, 32, 101, 120, 97, 99, 116]
 | _ => []
def ErrAt (W : World) (g : Nat) : Prop := ∃ a : Addr, W.cell? ⟨g, 0, none⟩ = some (.iface 321 (.pointer (some a))) ∧ (∃ s : ByteArray, W.cell? a = some (.string s) ∧ s.data.toList = errTx g) ∧ ∃ c t, W.heap[a.block]? = some (.cells c t (0, 0))
theorem err_of {W : World} {n : String} {g : Nat} (h : laidMet prog [(n, .iface "*errors.errorString" (.ptr (.agg [.lit (.string (errTx g))])))] W) (hg : Tryz.prog.globalNamed n = some g) (ht : (Tryz.prog.globals[g]?).map (·.type) = some 28) : ErrAt W g := by
 obtain ⟨ps, ⟨g0, t0, cs0, f0, p0, q0, hg0, ht0, hv0, hd0, _, e0⟩, _, hrows⟩ := h
 obtain rfl := Option.some.inj (hg.symm.trans hg0)
 obtain rfl := Option.some.inj (ht.symm.trans ht0)
 subst e0
 obtain ⟨l0⟩ := cs0
 have ok0 : ∀ u v, l0 = [.iface u v] → Value.okWide prog W .any 0 u v := fun u v e => by
  subst e
  exact (hrows g 0 (by simp [MemPlace.row])).2 u v (by simpa using World.var?_cell hg0 hv0 0)
 obtain ⟨a0, s0, rfl, hc0, hs0, hz0, hp0⟩ := errorString_of_trod υ28 rowErr υ321 underlying338 rfl rfl υ9 (by kernel_rfl) (by kernel_rfl) hd0 ok0
 refine ⟨a0, by simpa using World.var?_cell hg0 hv0 0, ⟨s0, hc0, hs0⟩, ?_⟩
 have hm : MemPlace.cell a0.block a0.off ∈ MemPlace.row a0 1 := by simp [MemPlace.row]
 exact (hrows a0.block a0.off (by rw [hp0]; simp [MemPlace.row])).1
theorem errs_of {W : World} (h : laidMet prog laidL W) : ∀ g, g ∈ errGs → ErrAt W g := by
 simp only [errGs, List.forall_mem_cons]
 exact ⟨err_of (n := "timbre/api.ErrLength") (h.at 9 O) (by kernel_rfl) (by kernel_rfl), err_of (n := "timbre/api.ErrMode") (h.at 19 O) (by kernel_rfl) (by kernel_rfl), err_of (n := "timbre/api.ErrShort") (h.at 3 O) (by kernel_rfl) (by kernel_rfl), err_of (n := "timbre/api.ErrVarint") (h.at 4 O) (by kernel_rfl) (by kernel_rfl), err_of (n := "timbre/api.ErrLimit") (h.at 5 O) (by kernel_rfl) (by kernel_rfl), err_of (n := "timbre/api.ErrTail") (h.at 6 O) (by kernel_rfl) (by kernel_rfl), err_of (n := "timbre/api.ErrRange") (h.at 7 O) (by kernel_rfl) (by kernel_rfl), err_of (n := "timbre/api.ErrText") (h.at 8 O) (by kernel_rfl) (by kernel_rfl), err_of (n := "timbre/api.ErrOrder") (h.at 10 O) (by kernel_rfl) (by kernel_rfl), err_of (n := "timbre/api.ErrProgram") (h.at 11 O) (by kernel_rfl) (by kernel_rfl), err_of (n := "timbre/api.ErrState") (h.at 12 O) (by kernel_rfl) (by kernel_rfl), err_of (n := "timbre/api.ErrRoot") (h.at 13 O) (by kernel_rfl) (by kernel_rfl), err_of (n := "timbre/api.ErrPerm") (h.at 14 O) (by kernel_rfl) (by kernel_rfl), err_of (n := "timbre/api.ErrNumber") (h.at 15 O) (by kernel_rfl) (by kernel_rfl), err_of (n := "timbre/api.ErrWorkers") (h.at 16 O) (by kernel_rfl) (by kernel_rfl), err_of (n := "timbre/api.ErrDone") (h.at 17 O) (by kernel_rfl) (by kernel_rfl), err_of (n := "timbre/api.ErrUnknown") (h.at 18 O) (by kernel_rfl) (by kernel_rfl), err_of (n := "timbre/api.ErrCommand") (h.at 20 O) (by kernel_rfl) (by kernel_rfl), err_of (n := "timbre/api.ErrExact") (h.at 21 O) (by kernel_rfl) (by kernel_rfl), fun _ h => absurd h (List.not_mem_nil)⟩
theorem errT_of {W : World} (h : laidMet prog laidL W) (hgn : 24 ≤ W.heap.size) : ∃ E, ErrT W.heap.size E W := by
 have h0 : ∀ g, ∃ a : Addr, g ∈ errGs → W.cell? ⟨g, 0, none⟩ = some (.iface 321 (.pointer (some a))) ∧ (∃ s : ByteArray, W.cell? a = some (.string s) ∧ s.data.toList = errTx g) ∧ ∃ c t, W.heap[a.block]? = some (.cells c t (0, 0)) := by
  intro g
  by_cases hg : g ∈ errGs
  ·
   obtain ⟨a, ha⟩ := errs_of h g hg
   exact ⟨a, fun _ => ha⟩
  · exact ⟨⟨0, 0, none⟩, fun hg' => absurd hg' hg⟩
 obtain ⟨E, hE⟩ := Classical.axiomOfChoice h0
 refine ⟨E, ⟨fun g hg => (hE g hg).1, fun g hg => ?_, hgn, fun g k hg hk e => ?_⟩⟩
 ·
  obtain ⟨c, t, hc⟩ := (hE g hg).2.2
  exact ⟨blk_lt hc, c, t, hc⟩
 ·
  obtain ⟨s, h1, h2⟩ := (hE g hg).2.1
  obtain ⟨s', h3, h4⟩ := (hE k hk).2.1
  rw [e, h3] at h1
  have hs : s' = s := by simpa using h1
  subst hs
  exact (by decide : ∀ g ∈ errGs, ∀ k ∈ errGs, errTx g = errTx k → g = k) g hg k hk (h2.symm.trans h4)
theorem gn_of {W : World} (h : laidMet prog laidL W) : 24 ≤ W.heap.size := by
 obtain ⟨ps, ⟨g0, t0, cs0, f0, p0, q0, hg0, ht0, hv0, hd0, _, e0⟩, _, hrows⟩ := h.at 1 rfl
 have hg : Tryz.prog.globalNamed "math/bits.deBruijn64tab" = some 23 := by kernel_rfl
 obtain rfl := Option.some.inj (hg.symm.trans hg0)
 unfold World.var? at hv0
 rw [hg] at hv0
 simp only [Option.bind_some] at hv0
 split at hv0
 ·
  rename_i hx
  have := blk_lt hx
  omega
 · cases hv0
theorem tab_of {W : World} (h : laidMet prog laidL W) (hgn : 24 ≤ W.heap.size) : TabB W.heap.size W := by
 have hg : Tryz.prog.globalNamed "internal/strconv.uint64pow10" = some 21 := by kernel_rfl
 refine ⟨Lib.tabIs_of_head hg (by kernel_rfl) underlying314 υ74 (by kernel_rfl) (by kernel_rfl) (h.at 2 (by kernel_rfl)), fun g e => ?_⟩
 obtain rfl := Option.some.inj (hg.symm.trans e)
 omega
section
variable {H : Type} {enc : TypeId × Value → H} {P : Program} {w : World} {base : Nat} {spare : Nat → Bool} {held : Bool}
theorem struct_cells {e : TypeId} {fs : Array Field} {fuel : Nat} {cs : List Value} {x : DataW H × List MemPlace} (he : P.underlying e = some (.struct fs))
  (hone : oneCellFields P fs = true) (hC : P.cellsOf e = fs.size) (h : DataW.trod enc P w base spare held fuel e cs = some x) :
  ∃ (ys : List (DataW H × List MemPlace)) (n : Nat), x.1 = .agg (ys.map (·.1)) ∧ cs.length = fs.size ∧ ∀ (j : Nat) (f : Field), fs[j]? = some f → ∃ (v : Value) (y : DataW H × List MemPlace), cs[j]? = some v ∧ ys[j]? = some y ∧ DataW.trod enc P w base spare held n f.type [v] = some y := by
 obtain ⟨ys, n', hn', hy, hlen, hyl, hf⟩ := DataW.trod_struct he h
 rw [hC] at hlen
 refine ⟨ys, n', by rw [hy], hlen, fun j f hj => ?_⟩
 obtain ⟨ho, hk⟩ := hone_of hone j f hj
 have hjl : j < fs.size := (Array.getElem?_eq_some_iff.1 hj).1
 have hv : cs[j]? = some (cs[j]'(by omega)) := List.getElem?_eq_getElem (by omega)
 have h1 := hf j f hj
 rw [ho, hk] at h1
 have hone' : (cs.drop j).take 1 = [cs[j]'(by omega)] := by
  rw [List.drop_eq_getElem_cons (by omega)]
  rfl
 rw [hone'] at h1
 have hys : ys[j]? = some (ys[j]'(by omega)) := List.getElem?_eq_getElem (by omega)
 exact ⟨_, _, hv, hys, h1.trans hys⟩
end
def stL : List (List UInt8 × Bool × Bool × Int × Bool) := [([], false, false, 0, false), ([103, 97, 116, 104, 101, 114], true, true, 0, false), ([115, 99, 97, 116, 116, 101, 114], true, true, 0, false), ([122, 101, 114, 111], false, false, 0, false), ([116, 119, 105, 115, 116], false, false, 16384, true), ([102, 108, 121], false, true, 5, false), ([100, 105, 114, 101, 99, 116], true, true, 64, false), ([99, 104, 105, 114, 112], false, false, 16384, false), ([102, 105, 108, 108], false, false, 16384, false), ([116, 105, 109, 101, 115], true, false, 0, false), ([99, 111, 110, 106], false, false, 0, false), ([111, 118, 101, 114], false, false, 16384, false)]
def stD : List (DataW Unit) := stL.map fun e => .agg [.lit (.string e.1), .lit (.bool e.2.1), .lit (.bool e.2.2.1), .lit (.int .i64 e.2.2.2.1), .lit (.bool e.2.2.2.2)]
def stK (i : Fin 12) : Bool := match stL[i.1]? with
 | some e => e.2.1 == kSrc i.1 && e.2.2.1 == kJmp i.1 && e.2.2.2.1 == kN i.1 && e.2.2.2.2 == kK i.1
 | none => false
theorem stK_spec {i : Nat} (hi : i < 12) (h : stK ⟨i, hi⟩ = true) : ∃ t, stD[i]? = some (.agg [.lit (.string t), .lit (.bool (kSrc i)), .lit (.bool (kJmp i)), .lit (.int .i64 (kN i)), .lit (.bool (kK i))]) := by
 unfold stK at h
 split at h
 ·
  rename_i e he
  simp only [Bool.and_eq_true, beq_iff_eq] at h
  obtain ⟨⟨⟨h1, h2⟩, h3⟩, h4⟩ := h
  exact ⟨e.1, by rw [stD, List.getElem?_map, he, ← h1, ← h2, ← h3, ← h4]; rfl⟩
 · cases h
theorem add_glob (g k : Nat) : (⟨g, 0, none⟩ : Addr).add k = ⟨g, k, none⟩ := by
 by_cases hk : k = 0
 · subst hk; rfl
 · simp [Addr.add, hk]
theorem st_of {W : World} (h : laidMet prog laidL W) : StT W := by
 obtain ⟨ps, ⟨g0, t0, cs0, f0, p0, q0, hg0, ht0, hv0, hd0, _, e0⟩, _, _⟩ := h.at 22 rfl
 obtain rfl := Option.some.inj ((show Tryz.prog.globalNamed "timbre/steps.table" = some 20 by kernel_rfl).symm.trans hg0)
 obtain rfl := Option.some.inj ((show (Tryz.prog.globals[20]?).map (·.type) = some 260 by kernel_rfl).symm.trans ht0)
 obtain ⟨xs, m1, rfl, hx1, hlen, hn12, hel⟩ := DataW.trod_array υ260 hd0
 have hxs := congrArg Prod.fst hx1
 have ck : Tryz.prog.cellsOf 259 = 5 := by kernel_rfl
 have c9 : Tryz.prog.cellsOf 9 = 1 := by kernel_rfl
 have c4 : Tryz.prog.cellsOf 4 = 1 := by kernel_rfl
 have c3 : Tryz.prog.cellsOf 3 = 1 := by kernel_rfl
 have key : ∀ (i : Nat) (t : List UInt8) (a b : Bool) (n : Int) (k : Bool), (xs.map (·.1))[i]? = some (.agg [.lit (.string t), .lit (.bool a), .lit (.bool b), .lit (.int .i64 n), .lit (.bool k)]) →
   ∃ s : ByteArray, CaR (· < 24) W ((⟨20, 0, none⟩ : Addr).add (i * 5)) [.string s, .bool a, .bool b, .int .i64 n, .bool k] := by
  intro i t a b n k hi
  rw [List.getElem?_map, Option.map_eq_some_iff] at hi
  obtain ⟨x, hx, hxd⟩ := hi
  have hi12 : i < 12 := by have := (List.getElem?_eq_some_iff.1 hx).1; omega
  have h1 := hel i hi12
  rw [hx, ck] at h1
  obtain ⟨ys, n', hy, hcl, hf⟩ := struct_cells υ259 (by kernel_rfl) (by kernel_rfl) h1
  obtain ⟨v0, y0, g0, k0, f0⟩ := hf 0 _ rfl
  obtain ⟨v1, y1, g1, k1, f1⟩ := hf 1 _ rfl
  obtain ⟨v2, y2, g2, k2, f2⟩ := hf 2 _ rfl
  obtain ⟨v3, y3, g3, k3, f3⟩ := hf 3 _ rfl
  obtain ⟨v4, y4, g4, k4, f4⟩ := hf 4 _ rfl
  obtain ⟨s, e0', e0'', _⟩ := DataW.trod_string υ9 f0
  obtain ⟨b1, e1', e1''⟩ := DataW.trod_bool υ4 f1
  obtain ⟨b2, e2', e2''⟩ := DataW.trod_bool υ4 f2
  obtain ⟨z3, e3', e3'', _⟩ := DataW.trod_int υ3 f3
  obtain ⟨b4, e4', e4''⟩ := DataW.trod_bool υ4 f4
  rw [hy] at hxd
  simp only [DataW.agg.injEq] at hxd
  subst e0'' e1'' e2'' e3'' e4''
  have q1 := congrArg (fun l => l[1]?) hxd; have q2 := congrArg (fun l => l[2]?) hxd; have q3 := congrArg (fun l => l[3]?) hxd; have q4 := congrArg (fun l => l[4]?) hxd
  simp only [List.getElem?_map, k1, k2, k3, k4, Option.map_some, List.getElem?_cons_succ, List.getElem?_cons_zero, Option.some.injEq, DataW.lit.injEq, Lit.bool.injEq, Lit.int.injEq, true_and] at q1 q2 q3 q4
  subst q1 q2 q3 q4
  simp only [List.cons.injEq, and_true] at e0' e1' e2' e3' e4'
  subst e0' e1' e2' e3' e4'
  have cell : ∀ j v, j < 5 → ((cs0.toList.drop (i * 5)).take 5)[j]? = some v → W.cell? (((⟨20, 0, none⟩ : Addr).add (i * 5)).add j) = some v := by
   intro j v hj5 hj
   rw [List.getElem?_take, if_pos hj5, List.getElem?_drop, Array.getElem?_toList] at hj
   have := World.var?_cell hg0 hv0 (i * 5 + j)
   rw [hj] at this
   rw [← this, Go.Deep.add_add, add_glob]
  refine ⟨s, fun j v hj => ?_, by rw [add_block]; decide⟩
  match j, hj with
  | 0, hj => obtain rfl := Option.some.inj hj; exact cell 0 _ (by decide) g0
  | 1, hj => obtain rfl := Option.some.inj hj; exact cell 1 _ (by decide) g1
  | 2, hj => obtain rfl := Option.some.inj hj; exact cell 2 _ (by decide) g2
  | 3, hj => obtain rfl := Option.some.inj hj; exact cell 3 _ (by decide) g3
  | 4, hj => obtain rfl := Option.some.inj hj; exact cell 4 _ (by decide) g4
  | j + 5, hj => simp at hj
 have hD : xs.map (·.1) = stD := by
  simp only [DataW.agg.injEq, Rows.laid_timbre_steps_table] at hxs
  exact hxs.symm
 rw [hD] at key
 have all : ∀ i, ∃ s : ByteArray, i < 12 → CaR (· < 24) W ((⟨20, 0, none⟩ : Addr).add (i * 5)) [.string s, .bool (kSrc i), .bool (kJmp i), .int .i64 (kN i), .bool (kK i)] := by
  intro i
  by_cases hi : i < 12
  ·
   have h2 := (by decide : ∀ i : Fin 12, stK i = true) ⟨i, hi⟩
   obtain ⟨t, ht⟩ := stK_spec hi h2
   obtain ⟨s, hs⟩ := key i _ _ _ _ _ ht
   exact ⟨s, fun _ => hs⟩
  · exact ⟨⟨#[]⟩, fun h => absurd h hi⟩
 obtain ⟨nm, hnm⟩ := Classical.axiomOfChoice all
 exact ⟨nm, hnm⟩
end Go.Tm
