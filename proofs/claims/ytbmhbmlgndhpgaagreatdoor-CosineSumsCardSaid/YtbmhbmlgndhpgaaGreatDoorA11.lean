/- Lemmas of this claim, joined by program. Walks of functions: a program's bytes. Owned rows written into, cleared, resliced; copies. Texts as lists of bytes. Rules with an answer that is known. Walks of functions: a program's bytes, put together. Floats: a plain float is its bits, or none: a NaN (whose bits no rule names). What each operation gives. Rows of complex numbers; comparisons of floats; make, clear and copy over owned rows; arrays and slices of them. Conditions: each lemma names its own. -/
import Derived.Test.YtbmhbmlgndhpgaaGreatDoorA10
import Derived.Test.YtbmhbmlgndhpgaaGreatDoorA01
import Derived.Test.YtbmhbmlgndhpgaaGreatDoorA03
import Derived.Test.YtbmhbmlgndhpgaaGreatDoorA04
import Derived.Laws.FloatArith
import Derived.Laws.NewFold
import Derived.Laws.CopyRow
import Derived.Laws.IdiomCopy
set_option linter.all false
namespace Go.Tm
open Go.RowKit Go.Proofs
def fieldIx (op : Nat) : List Nat := [1] ++ (if kSrc op = true then [2] else []) ++ (if kJmp op = true then [3] else []) ++ [4] ++ (if 0 < kN op then [5] else []) ++ (if kK op = true then [6] else [])
abbrev ptrAt (p j : Nat) : Value := .pointer (some ⟨p, j, none⟩)
def Stp.val (s : Stp) : Nat → Int
  | 0 => s.op
  | 1 => s.dst
  | 2 => s.src
  | 3 => s.jump
  | 4 => s.count
  | 5 => s.n
  | _ => s.k
theorem fieldIx_lt {op j : Nat} (h : j ∈ fieldIx op) : 1 ≤ j ∧ j ≤ 6 := by
  unfold fieldIx at h
  simp only [List.mem_append] at h
  rcases h with ((((h | h) | h) | h) | h) | h
  · simp at h; omega
  · split at h <;> simp at h; omega
  · split at h <;> simp at h; omega
  · simp at h; omega
  · split at h <;> simp at h; omega
  · split at h <;> simp at h; omega
theorem Stp.cell_at (s : Stp) {j : Nat} (h : j ≤ 6) : s.cells[j]? = some (.int .i64 (s.val j)) := by
  match j, h with
  | 0, _ => rfl
  | 1, _ => rfl
  | 2, _ => rfl
  | 3, _ => rfl
  | 4, _ => rfl
  | 5, _ => rfl
  | 6, _ => rfl
def Bld.hd (b : Bld) : List Int := [b.ln, b.cl, b.i0, b.ou]
abbrev bldC (b : Bld) (A : Option Addr) (c : Nat) : Array Value := #[.int .i64 b.ln, .int .i64 b.cl, .int .i64 b.i0, .int .i64 b.ou, .slice A b.steps.length c]
theorem hd_cell (b : Bld) (A : Option Addr) (c : Nat) {j : Nat} {x : Int} (h : b.hd[j]? = some x) : (bldC b A c)[j]? = some (.int .i64 x) := by
  match j, h with
  | 0, h => obtain rfl := Option.some.inj h; rfl
  | 1, h => obtain rfl := Option.some.inj h; rfl
  | 2, h => obtain rfl := Option.some.inj h; rfl
  | 3, h => obtain rfl := Option.some.inj h; rfl
  | j + 4, h => simp [Bld.hd] at h
def encS (s : Stp) : List UInt8 := uintB s.op.toNat ++ (fieldIx s.op.toNat).flatMap fun j => uintB (s.val j).toNat
def encB (b : Bld) : List UInt8 := b.hd.flatMap (fun x => uintB x.toNat) ++ uintB b.steps.length ++ b.steps.flatMap encS
def okNum (x : Int) : Bool := decide (0 ≤ x) && decide (x ≤ 262144)
structure okB (b : Bld) : Prop where
  len : b.steps.length ≤ 65536
  hd : ∀ x ∈ b.hd, 0 ≤ x ∧ x ≤ 262144
  st : ∀ s ∈ b.steps, formM s = true
theorem ptr_get {S : Nat → Prop} {w : World} {A : Option Addr} {l : Nat} {L : List Nat} {p i j : Nat} (h : SlR S w A l 1 (L.map (ptrAt p))) (hy : L[i]? = some j) : w.cell? ((sAddr A).add (i * 1)) = some (ptrAt p j) := by
  have hl := h.len
  have hi := (List.getElem?_eq_some_iff.1 hy).1
  refine h.one (by simp at hl; omega) ?_
  rw [List.getElem?_map, hy]; rfl
theorem fromM_bd {x lo hi : Int} (h : fromM true x lo hi = true) : lo ≤ x ∧ x ≤ hi := by
  simpa [fromM] using h
theorem form_bd {s : Stp} (h : formM s = true) : (1 ≤ s.op ∧ s.op ≤ 11) ∧ ∀ j ∈ fieldIx s.op.toNat, 0 ≤ s.val j ∧ s.val j ≤ 262144 := by
  unfold formM at h
  split at h
  · cases h
  rename_i h1
  have hop : 1 ≤ s.op ∧ s.op ≤ 11 := Classical.not_not.1 h1
  have h2 : (fromM true s.dst 0 262143 && fromM true s.count 1 262144 && fromM (kSrc s.op.toNat) s.src 0 262143 && fromM (kJmp s.op.toNat) s.jump 1 262144 && fromM (decide (kN s.op.toNat > 0)) s.n (if s.op = 5 then 2 else 1) (kN s.op.toNat) && fromM (kK s.op.toNat) s.k 0 (s.n - 1)) = true := by
    cases hq : (fromM true s.dst 0 262143 && fromM true s.count 1 262144 && fromM (kSrc s.op.toNat) s.src 0 262143 && fromM (kJmp s.op.toNat) s.jump 1 262144 && fromM (decide (kN s.op.toNat > 0)) s.n (if s.op = 5 then 2 else 1) (kN s.op.toNat) && fromM (kK s.op.toNat) s.k 0 (s.n - 1)) with
    | true => rfl
    | false =>
      simp only [hq, if_true] at h
      cases h
  simp only [Bool.and_eq_true] at h2
  obtain ⟨⟨⟨⟨⟨ha, hb⟩, hc⟩, hd⟩, he⟩, hf⟩ := h2
  have kn : ∀ i, kN i ≤ 16384 := by intro i; unfold kN; split <;> (try split) <;> (try split) <;> omega
  refine ⟨hop, fun j hj => ?_⟩
  unfold fieldIx at hj
  simp only [List.mem_append] at hj
  have h4 := fromM_bd ha
  have h5 := fromM_bd hb
  rcases hj with ((((hj | hj) | hj) | hj) | hj) | hj
  · obtain rfl : j = 1 := by simpa using hj
    show 0 ≤ s.dst ∧ s.dst ≤ 262144; omega
  · split at hj
    · rename_i hk
      obtain rfl : j = 2 := by simpa using hj
      rw [hk] at hc; have := fromM_bd hc
      show 0 ≤ s.src ∧ s.src ≤ 262144; omega
    · simp at hj
  · split at hj
    · rename_i hk
      obtain rfl : j = 3 := by simpa using hj
      rw [hk] at hd; have := fromM_bd hd
      show 0 ≤ s.jump ∧ s.jump ≤ 262144; omega
    · simp at hj
  · obtain rfl : j = 4 := by simpa using hj
    show 0 ≤ s.count ∧ s.count ≤ 262144; omega
  · split at hj
    · rename_i hk
      obtain rfl : j = 5 := by simpa using hj
      rw [decide_eq_true (by omega)] at he; have t1 := fromM_bd he; have t2 := kn s.op.toNat
      show 0 ≤ s.n ∧ s.n ≤ 262144
      have q : (1 : Int) ≤ (if s.op = 5 then 2 else 1) := by split <;> omega
      omega
    · simp at hj
  · split at hj
    · rename_i hk
      obtain rfl : j = 6 := by simpa using hj
      rw [hk] at hf; have := fromM_bd hf
      have hk4 : s.op.toNat = 4 := by simpa [kK] using hk
      rw [decide_eq_true (by rw [hk4]; decide)] at he; have := fromM_bd he; have := kn s.op.toNat
      show 0 ≤ s.k ∧ s.k ≤ 262144
      omega
    · simp at hj
set_option maxRecDepth 100000 in
theorem inf154w33 : Inf Tryz.prog 154 (.pointer none) 1 8 := ⟨Tryz.t154, Tryz.type154, rfl, rfl, rfl⟩
set_option maxHeartbeats 4000000 in
set_option maxRecDepth 100000 in
theorem steps_fields (p : Nat) (s : Stp) (ho : 1 ≤ s.op ∧ s.op ≤ 11) (w : World) (st : StT w) (bs : Bk w p s.cells.toArray 119) :
  Calls Tryz.prog 88 #[.pointer (some ⟨p, 0, none⟩)] w (Ret (fun v w' => ∃ r A c, v = .slice A (fieldIx s.op.toNat).length c ∧ Ow w' r 154 1 A (fieldIx s.op.toNat).length c ((fieldIx s.op.toNat).map (ptrAt p)) ∧ w.heap.size < r ∧ Ch No w w')) := by
 refine calls_of_VC (args := [.pointer (some ⟨p, 0, none⟩)]) Tryz.func88 rfl Tryz.ntmps88 rfl (VC.seq (VC.region (VO.mv (Rn.assign rfl) rfl rfl rfl (VO.nil (VQ.then_code (VC.seq ?_))))))
 obtain ⟨nm, ht⟩ := st
 have ka := ht s.op.toNat (by omega)
 refine VC.region (VO.mv (Rn.move rfl) rfl rfl rfl (VO.mv (Rn.nilCheck rfl) rfl rfl rfl (VO.mv (Rn.field Tryz.underlying119 rfl Tryz.sizeOf3 rfl rfl rfl) rfl rfl rfl (VO.mv (Rn.load Tryz.isAgg3 rfl (bs.cell rfl)) rfl rfl rfl (VO.mv (Rn.indexArr Tryz.underlying180 Tryz.sizeOf179 rfl rfl (by omega) (by omega)) rfl rfl rfl (VO.mv (Rn.loads Tryz.isAgg179 Tryz.sizeOf179 rfl rfl ka.1) rfl rfl rfl (VO.wk (Wk.alloc Tryz.zeroValue179) rfl rfl rfl ?_)))))))
 rintro _ w1 ⟨p1, rfl, N1⟩
 have c1 := N1.ch
 have e1 := N1.p; have z1 := N1.size
 have b3 := Bk.new N1
 refine VO.wk0 (Wk.puts Tryz.sizeOf179 rfl rfl rfl rfl b3 (Nat.le_of_ble_eq_true rfl)) rfl rfl ?_
 intro _ w2 Z2
 have c2 := Z2.ch; have z2 := Z2.size
 have b3_2 := Bk.put Z2
 refine VO.nil (VQ.then_code (VC.seq (VC.region (VO.mv (Rn.move rfl) rfl rfl rfl (VO.mv (Rn.nilCheck rfl) rfl rfl rfl (VO.mv (Rn.field Tryz.underlying119 rfl Tryz.sizeOf3 rfl rfl rfl) rfl rfl rfl (VO.wk (Wk.lit Tryz.underlying151 inf154w33 (by decide) rfl rfl (by rfl) (by decide) (by decide) (by rfl)) rfl rfl rfl ?_)))))))
 rintro _ w3 ⟨p3, rfl, N3⟩
 have c3 := N3.ch
 have e3 := N3.p; have z3 := N3.size
 have l14 := SlR.of_new (sz := 1) (l := 1) N3 rfl
 have l14o := Ow.of_new (sz := 1) (l := 1) N3 rfl (by decide)
 refine VO.mv (Rn.assign rfl) rfl rfl rfl (VO.nil (VQ.then_code (VC.seq (VC.seq (VC.region (VO.mv (Rn.field Tryz.underlying179 rfl Tryz.sizeOf4 rfl rfl rfl) rfl rfl rfl ?_))))))
 have b3_3 := b3_2.keep c3
 refine VO.mv (Rn.load Tryz.isAgg4 rfl (b3_3.cell rfl)) rfl rfl rfl (VO.nil (VQ.then_code (VC.cond rfl (fun hc1 => ?_) (fun hc1 => ?_))))
 ·
  try simp only [Bool.and_eq_true, Bool.or_eq_true, Bool.not_eq_true', Bool.not_eq_false', Bool.and_eq_false_iff, Bool.or_eq_false_iff, decide_eq_true_eq, decide_eq_false_iff_not] at hc1
  refine VC.region (VO.mv (Rn.move rfl) rfl rfl rfl (VO.mv (Rn.move rfl) rfl rfl rfl (VO.mv (Rn.nilCheck rfl) rfl rfl rfl (VO.mv (Rn.field Tryz.underlying119 rfl Tryz.sizeOf3 rfl rfl rfl) rfl rfl rfl (VO.wk (Wk.lit Tryz.underlying151 inf154w33 (by decide) rfl rfl (by rfl) (by decide) (by decide) (by rfl)) rfl rfl rfl ?_)))))
  rintro _ w4 ⟨p4, rfl, N4⟩
  have c4 := N4.ch
  have e4 := N4.p; have z4 := N4.size
  have l21 := SlR.of_new (sz := 1) (l := 1) N4 rfl
  have l21o := Ow.of_new (sz := 1) (l := 1) N4 rfl (by decide)
  have l14o_4 := l14o.keep c4
  refine VO.wk (Wk.append (S := _) Tryz.underlying151 inf154w33 rfl (by decide) rfl rfl l14o_4 l21 (by rfl) (fun h => by simp at h) (by omega) (by simp only [maxLen]; omega)) rfl rfl rfl ?_
  rintro _ w5 ⟨r5, A5, k5, rfl, o5, c5, q5⟩
  have z5 := c5.size
  have y5 := o5.lt
  refine VO.mv (Rn.assign rfl) rfl rfl rfl (VO.nil (VQ.then_code (VC.seq (VC.seq (VC.region (VO.mv (Rn.field Tryz.underlying179 rfl Tryz.sizeOf4 rfl rfl rfl) rfl rfl rfl ?_))))))
  have b3_4 := b3_3.keep c4
  have b3_5 := b3_4.to c5 (by first | exact id | omega)
  refine VO.mv (Rn.load Tryz.isAgg4 rfl (b3_5.cell rfl)) rfl rfl rfl (VO.nil (VQ.then_code (VC.cond rfl (fun hc2 => ?_) (fun hc2 => ?_))))
  ·
   try simp only [Bool.and_eq_true, Bool.or_eq_true, Bool.not_eq_true', Bool.not_eq_false', Bool.and_eq_false_iff, Bool.or_eq_false_iff, decide_eq_true_eq, decide_eq_false_iff_not] at hc2
   refine VC.region (VO.mv (Rn.move rfl) rfl rfl rfl (VO.mv (Rn.move rfl) rfl rfl rfl (VO.mv (Rn.nilCheck rfl) rfl rfl rfl (VO.mv (Rn.field Tryz.underlying119 rfl Tryz.sizeOf3 rfl rfl rfl) rfl rfl rfl (VO.wk (Wk.lit Tryz.underlying151 inf154w33 (by decide) rfl rfl (by rfl) (by decide) (by decide) (by rfl)) rfl rfl rfl ?_)))))
   rintro _ w6 ⟨p6, rfl, N6⟩
   have c6 := N6.ch
   have e6 := N6.p; have z6 := N6.size
   have l29 := SlR.of_new (sz := 1) (l := 1) N6 rfl
   have l29o := Ow.of_new (sz := 1) (l := 1) N6 rfl (by decide)
   have row_6 := o5.keep c6
   refine VO.wk (Wk.append (S := _) Tryz.underlying151 inf154w33 rfl (by decide) rfl rfl row_6 l29 (by rfl) (fun h => by simp at h) (by omega) (by simp only [maxLen]; omega)) rfl rfl rfl ?_
   rintro _ w7 ⟨r7, A7, k7, rfl, o7, c7, q7⟩
   have z7 := c7.size
   have y7 := o7.lt
   refine VO.mv (Rn.assign rfl) rfl rfl rfl (VO.nil (VQ.then_code (VC.seq (VC.region (VO.mv (Rn.move rfl) rfl rfl rfl (VO.mv (Rn.move rfl) rfl rfl rfl (VO.mv (Rn.nilCheck rfl) rfl rfl rfl ?_)))))))
   refine VO.mv (Rn.field Tryz.underlying119 rfl Tryz.sizeOf3 rfl rfl rfl) rfl rfl rfl (VO.wk (Wk.lit Tryz.underlying151 inf154w33 (by decide) rfl rfl (by rfl) (by decide) (by decide) (by rfl)) rfl rfl rfl ?_)
   rintro _ w8 ⟨p8, rfl, N8⟩
   have c8 := N8.ch
   have e8 := N8.p; have z8 := N8.size
   have l35 := SlR.of_new (sz := 1) (l := 1) N8 rfl
   have l35o := Ow.of_new (sz := 1) (l := 1) N8 rfl (by decide)
   have row_8 := o7.keep c8
   refine VO.wk (Wk.append (S := _) Tryz.underlying151 inf154w33 rfl (by decide) rfl rfl row_8 l35 (by rfl) (fun h => by simp at h) (by omega) (by simp only [maxLen]; omega)) rfl rfl rfl ?_
   rintro _ w9 ⟨r9, A9, k9, rfl, o9, c9, q9⟩
   have z9 := c9.size
   have y9 := o9.lt
   refine VO.mv (Rn.assign rfl) rfl rfl rfl (VO.nil (VQ.then_code (VC.seq (VC.seq (VC.region (VO.mv (Rn.field Tryz.underlying179 rfl Tryz.sizeOf3 rfl rfl rfl) rfl rfl rfl ?_))))))
   have b3_6 := b3_5.keep c6
   have b3_7 := b3_6.to c7 (by first | exact id | omega)
   have b3_8 := b3_7.keep c8
   have b3_9 := b3_8.to c9 (by first | exact id | omega)
   refine VO.mv (Rn.load Tryz.isAgg3 rfl (b3_9.cell rfl)) rfl rfl rfl (VO.mv (Rn.gtr rfl rfl) rfl rfl rfl (VO.nil (VQ.then_code (VC.cond_if rfl (fun hc3 => ?_) (fun hc3 => ?_)))))
   ·
    refine VC.region (VO.mv (Rn.move rfl) rfl rfl rfl (VO.mv (Rn.move rfl) rfl rfl rfl (VO.mv (Rn.nilCheck rfl) rfl rfl rfl (VO.mv (Rn.field Tryz.underlying119 rfl Tryz.sizeOf3 rfl rfl rfl) rfl rfl rfl (VO.wk (Wk.lit Tryz.underlying151 inf154w33 (by decide) rfl rfl (by rfl) (by decide) (by decide) (by rfl)) rfl rfl rfl ?_)))))
    rintro _ w10 ⟨p10, rfl, N10⟩
    have c10 := N10.ch
    have e10 := N10.p; have z10 := N10.size
    have l44 := SlR.of_new (sz := 1) (l := 1) N10 rfl
    have l44o := Ow.of_new (sz := 1) (l := 1) N10 rfl (by decide)
    have row_10 := o9.keep c10
    refine VO.wk (Wk.append (S := _) Tryz.underlying151 inf154w33 rfl (by decide) rfl rfl row_10 l44 (by rfl) (fun h => by simp at h) (by omega) (by simp only [maxLen]; omega)) rfl rfl rfl ?_
    rintro _ w11 ⟨r11, A11, k11, rfl, o11, c11, q11⟩
    have z11 := c11.size
    have y11 := o11.lt
    refine VO.mv (Rn.assign rfl) rfl rfl rfl (VO.nil (VQ.then_code (VC.seq (VC.seq (VC.region (VO.mv (Rn.field Tryz.underlying179 rfl Tryz.sizeOf4 rfl rfl rfl) rfl rfl rfl ?_))))))
    have b3_10 := b3_9.keep c10
    have b3_11 := b3_10.to c11 (by first | exact id | omega)
    refine VO.mv (Rn.load Tryz.isAgg4 rfl (b3_11.cell rfl)) rfl rfl rfl (VO.nil (VQ.then_code (VC.cond rfl (fun hc4 => ?_) (fun hc4 => ?_))))
    ·
     try simp only [Bool.and_eq_true, Bool.or_eq_true, Bool.not_eq_true', Bool.not_eq_false', Bool.and_eq_false_iff, Bool.or_eq_false_iff, decide_eq_true_eq, decide_eq_false_iff_not] at hc4
     refine VC.region (VO.mv (Rn.move rfl) rfl rfl rfl (VO.mv (Rn.move rfl) rfl rfl rfl (VO.mv (Rn.nilCheck rfl) rfl rfl rfl (VO.mv (Rn.field Tryz.underlying119 rfl Tryz.sizeOf3 rfl rfl rfl) rfl rfl rfl (VO.wk (Wk.lit Tryz.underlying151 inf154w33 (by decide) rfl rfl (by rfl) (by decide) (by decide) (by rfl)) rfl rfl rfl ?_)))))
     rintro _ w12 ⟨p12, rfl, N12⟩
     have c12 := N12.ch
     have e12 := N12.p; have z12 := N12.size
     have l52 := SlR.of_new (sz := 1) (l := 1) N12 rfl
     have l52o := Ow.of_new (sz := 1) (l := 1) N12 rfl (by decide)
     have row_12 := o11.keep c12
     refine VO.wk (Wk.append (S := _) Tryz.underlying151 inf154w33 rfl (by decide) rfl rfl row_12 l52 (by rfl) (fun h => by simp at h) (by omega) (by simp only [maxLen]; omega)) rfl rfl rfl ?_
     rintro _ w13 ⟨r13, A13, k13, rfl, o13, c13, q13⟩
     have z13 := c13.size
     have y13 := o13.lt
     refine VO.mv (Rn.assign rfl) rfl rfl rfl (VO.nil (VQ.then_code (VC.seq (VC.region (VO.mv (Rn.move rfl) rfl rfl rfl (VO.mv (Rn.assign rfl) rfl rfl rfl (VO.nil ?_)))))))
     refine VQ.then_code (VC.ret (VQ.ret1 rfl rfl (Ret.mk ?_)))
     have hlen := o13.1
     have cc_0_4 : Ch No w w4 := (((Ch.then (E := No) c1 c2 (by intro q h1 h2; rcases h2 with h2 | h2 <;> first | exact h2 | (exfalso; omega))).and c3).and c4)
     have CH_4 := (Ch.refl (No) w).and cc_0_4
     have CH_5 : Ch (No) w w5 := CH_4.then c5 (by intro q h1 h2; rcases h2 with h2 | h2 <;> first | exact h2 | (exfalso; omega) | omega)
     have CH_6 := CH_5.and c6
     have CH_7 : Ch (No) w w7 := CH_6.then c7 (by intro q h1 h2; rcases h2 with h2 | h2 <;> first | exact h2 | (exfalso; omega) | omega)
     have CH_8 := CH_7.and c8
     have CH_9 : Ch (No) w w9 := CH_8.then c9 (by intro q h1 h2; rcases h2 with h2 | h2 <;> first | exact h2 | (exfalso; omega) | omega)
     have CH_10 := CH_9.and c10
     have CH_11 : Ch (No) w w11 := CH_10.then c11 (by intro q h1 h2; rcases h2 with h2 | h2 <;> first | exact h2 | (exfalso; omega) | omega)
     have CH_12 := CH_11.and c12
     have CH_13 : Ch (No) w w13 := CH_12.then c13 (by intro q h1 h2; rcases h2 with h2 | h2 <;> first | exact h2 | (exfalso; omega) | omega)
     exact ⟨r13, A13, k13, by simp [fieldIx, *], (o13).to' (by simp [fieldIx, *]) (by simp [fieldIx, flat, Value.cells, *]), by omega, CH_13⟩
    ·
     try simp only [Bool.and_eq_true, Bool.or_eq_true, Bool.not_eq_true', Bool.not_eq_false', Bool.and_eq_false_iff, Bool.or_eq_false_iff, decide_eq_true_eq, decide_eq_false_iff_not] at hc4
     refine VC.skip (VQ.then_code (VC.seq (VC.region (VO.mv (Rn.move rfl) rfl rfl rfl (VO.mv (Rn.assign rfl) rfl rfl rfl (VO.nil (VQ.then_code ?_)))))))
     refine VC.ret (VQ.ret1 rfl rfl (Ret.mk ?_))
     have hlen := o11.1
     have cc_0_4 : Ch No w w4 := (((Ch.then (E := No) c1 c2 (by intro q h1 h2; rcases h2 with h2 | h2 <;> first | exact h2 | (exfalso; omega))).and c3).and c4)
     have CH_4 := (Ch.refl (No) w).and cc_0_4
     have CH_5 : Ch (No) w w5 := CH_4.then c5 (by intro q h1 h2; rcases h2 with h2 | h2 <;> first | exact h2 | (exfalso; omega) | omega)
     have CH_6 := CH_5.and c6
     have CH_7 : Ch (No) w w7 := CH_6.then c7 (by intro q h1 h2; rcases h2 with h2 | h2 <;> first | exact h2 | (exfalso; omega) | omega)
     have CH_8 := CH_7.and c8
     have CH_9 : Ch (No) w w9 := CH_8.then c9 (by intro q h1 h2; rcases h2 with h2 | h2 <;> first | exact h2 | (exfalso; omega) | omega)
     have CH_10 := CH_9.and c10
     have CH_11 : Ch (No) w w11 := CH_10.then c11 (by intro q h1 h2; rcases h2 with h2 | h2 <;> first | exact h2 | (exfalso; omega) | omega)
     exact ⟨r11, A11, k11, by simp [fieldIx, *], (o11).to' (by simp [fieldIx, *]) (by simp [fieldIx, flat, Value.cells, *]), by omega, CH_11⟩
   ·
    refine VC.skip (VQ.then_code (VC.seq (VC.seq (VC.region (VO.mv (Rn.field Tryz.underlying179 rfl Tryz.sizeOf4 rfl rfl rfl) rfl rfl rfl (VO.mv (Rn.load Tryz.isAgg4 rfl (b3_9.cell rfl)) rfl rfl rfl (VO.nil ?_)))))))
    refine VQ.then_code (VC.cond rfl (fun hc5 => ?_) (fun hc5 => ?_))
    ·
     try simp only [Bool.and_eq_true, Bool.or_eq_true, Bool.not_eq_true', Bool.not_eq_false', Bool.and_eq_false_iff, Bool.or_eq_false_iff, decide_eq_true_eq, decide_eq_false_iff_not] at hc5
     refine VC.region (VO.mv (Rn.move rfl) rfl rfl rfl (VO.mv (Rn.move rfl) rfl rfl rfl (VO.mv (Rn.nilCheck rfl) rfl rfl rfl (VO.mv (Rn.field Tryz.underlying119 rfl Tryz.sizeOf3 rfl rfl rfl) rfl rfl rfl (VO.wk (Wk.lit Tryz.underlying151 inf154w33 (by decide) rfl rfl (by rfl) (by decide) (by decide) (by rfl)) rfl rfl rfl ?_)))))
     rintro _ w14 ⟨p14, rfl, N14⟩
     have c14 := N14.ch
     have e14 := N14.p; have z14 := N14.size
     have l52 := SlR.of_new (sz := 1) (l := 1) N14 rfl
     have l52o := Ow.of_new (sz := 1) (l := 1) N14 rfl (by decide)
     have row_14 := o9.keep c14
     refine VO.wk (Wk.append (S := _) Tryz.underlying151 inf154w33 rfl (by decide) rfl rfl row_14 l52 (by rfl) (fun h => by simp at h) (by omega) (by simp only [maxLen]; omega)) rfl rfl rfl ?_
     rintro _ w15 ⟨r15, A15, k15, rfl, o15, c15, q15⟩
     have z15 := c15.size
     have y15 := o15.lt
     refine VO.mv (Rn.assign rfl) rfl rfl rfl (VO.nil (VQ.then_code (VC.seq (VC.region (VO.mv (Rn.move rfl) rfl rfl rfl (VO.mv (Rn.assign rfl) rfl rfl rfl (VO.nil ?_)))))))
     refine VQ.then_code (VC.ret (VQ.ret1 rfl rfl (Ret.mk ?_)))
     have hlen := o15.1
     have cc_0_4 : Ch No w w4 := (((Ch.then (E := No) c1 c2 (by intro q h1 h2; rcases h2 with h2 | h2 <;> first | exact h2 | (exfalso; omega))).and c3).and c4)
     have CH_4 := (Ch.refl (No) w).and cc_0_4
     have CH_5 : Ch (No) w w5 := CH_4.then c5 (by intro q h1 h2; rcases h2 with h2 | h2 <;> first | exact h2 | (exfalso; omega) | omega)
     have CH_6 := CH_5.and c6
     have CH_7 : Ch (No) w w7 := CH_6.then c7 (by intro q h1 h2; rcases h2 with h2 | h2 <;> first | exact h2 | (exfalso; omega) | omega)
     have CH_8 := CH_7.and c8
     have CH_9 : Ch (No) w w9 := CH_8.then c9 (by intro q h1 h2; rcases h2 with h2 | h2 <;> first | exact h2 | (exfalso; omega) | omega)
     have CH_14 := CH_9.and c14
     have CH_15 : Ch (No) w w15 := CH_14.then c15 (by intro q h1 h2; rcases h2 with h2 | h2 <;> first | exact h2 | (exfalso; omega) | omega)
     exact ⟨r15, A15, k15, by simp [fieldIx, *], (o15).to' (by simp [fieldIx, *]) (by simp [fieldIx, flat, Value.cells, *]), by omega, CH_15⟩
    ·
     try simp only [Bool.and_eq_true, Bool.or_eq_true, Bool.not_eq_true', Bool.not_eq_false', Bool.and_eq_false_iff, Bool.or_eq_false_iff, decide_eq_true_eq, decide_eq_false_iff_not] at hc5
     refine VC.skip (VQ.then_code (VC.seq (VC.region (VO.mv (Rn.move rfl) rfl rfl rfl (VO.mv (Rn.assign rfl) rfl rfl rfl (VO.nil (VQ.then_code ?_)))))))
     refine VC.ret (VQ.ret1 rfl rfl (Ret.mk ?_))
     have hlen := o9.1
     have cc_0_4 : Ch No w w4 := (((Ch.then (E := No) c1 c2 (by intro q h1 h2; rcases h2 with h2 | h2 <;> first | exact h2 | (exfalso; omega))).and c3).and c4)
     have CH_4 := (Ch.refl (No) w).and cc_0_4
     have CH_5 : Ch (No) w w5 := CH_4.then c5 (by intro q h1 h2; rcases h2 with h2 | h2 <;> first | exact h2 | (exfalso; omega) | omega)
     have CH_6 := CH_5.and c6
     have CH_7 : Ch (No) w w7 := CH_6.then c7 (by intro q h1 h2; rcases h2 with h2 | h2 <;> first | exact h2 | (exfalso; omega) | omega)
     have CH_8 := CH_7.and c8
     have CH_9 : Ch (No) w w9 := CH_8.then c9 (by intro q h1 h2; rcases h2 with h2 | h2 <;> first | exact h2 | (exfalso; omega) | omega)
     exact ⟨r9, A9, k9, by simp [fieldIx, *], (o9).to' (by simp [fieldIx, *]) (by simp [fieldIx, flat, Value.cells, *]), by omega, CH_9⟩
  ·
   try simp only [Bool.and_eq_true, Bool.or_eq_true, Bool.not_eq_true', Bool.not_eq_false', Bool.and_eq_false_iff, Bool.or_eq_false_iff, decide_eq_true_eq, decide_eq_false_iff_not] at hc2
   refine VC.skip (VQ.then_code (VC.seq (VC.region (VO.mv (Rn.move rfl) rfl rfl rfl (VO.mv (Rn.move rfl) rfl rfl rfl (VO.mv (Rn.nilCheck rfl) rfl rfl rfl (VO.mv (Rn.field Tryz.underlying119 rfl Tryz.sizeOf3 rfl rfl rfl) rfl rfl rfl ?_)))))))
   refine VO.wk (Wk.lit Tryz.underlying151 inf154w33 (by decide) rfl rfl (by rfl) (by decide) (by decide) (by rfl)) rfl rfl rfl ?_
   rintro _ w16 ⟨p16, rfl, N16⟩
   have c16 := N16.ch
   have e16 := N16.p; have z16 := N16.size
   have l35 := SlR.of_new (sz := 1) (l := 1) N16 rfl
   have l35o := Ow.of_new (sz := 1) (l := 1) N16 rfl (by decide)
   have row_16 := o5.keep c16
   refine VO.wk (Wk.append (S := _) Tryz.underlying151 inf154w33 rfl (by decide) rfl rfl row_16 l35 (by rfl) (fun h => by simp at h) (by omega) (by simp only [maxLen]; omega)) rfl rfl rfl ?_
   rintro _ w17 ⟨r17, A17, k17, rfl, o17, c17, q17⟩
   have z17 := c17.size
   have y17 := o17.lt
   refine VO.mv (Rn.assign rfl) rfl rfl rfl (VO.nil (VQ.then_code (VC.seq (VC.seq (VC.region (VO.mv (Rn.field Tryz.underlying179 rfl Tryz.sizeOf3 rfl rfl rfl) rfl rfl rfl ?_))))))
   have b3_16 := b3_5.keep c16
   have b3_17 := b3_16.to c17 (by first | exact id | omega)
   refine VO.mv (Rn.load Tryz.isAgg3 rfl (b3_17.cell rfl)) rfl rfl rfl (VO.mv (Rn.gtr rfl rfl) rfl rfl rfl (VO.nil (VQ.then_code (VC.cond_if rfl (fun hc6 => ?_) (fun hc6 => ?_)))))
   ·
    refine VC.region (VO.mv (Rn.move rfl) rfl rfl rfl (VO.mv (Rn.move rfl) rfl rfl rfl (VO.mv (Rn.nilCheck rfl) rfl rfl rfl (VO.mv (Rn.field Tryz.underlying119 rfl Tryz.sizeOf3 rfl rfl rfl) rfl rfl rfl (VO.wk (Wk.lit Tryz.underlying151 inf154w33 (by decide) rfl rfl (by rfl) (by decide) (by decide) (by rfl)) rfl rfl rfl ?_)))))
    rintro _ w18 ⟨p18, rfl, N18⟩
    have c18 := N18.ch
    have e18 := N18.p; have z18 := N18.size
    have l44 := SlR.of_new (sz := 1) (l := 1) N18 rfl
    have l44o := Ow.of_new (sz := 1) (l := 1) N18 rfl (by decide)
    have row_18 := o17.keep c18
    refine VO.wk (Wk.append (S := _) Tryz.underlying151 inf154w33 rfl (by decide) rfl rfl row_18 l44 (by rfl) (fun h => by simp at h) (by omega) (by simp only [maxLen]; omega)) rfl rfl rfl ?_
    rintro _ w19 ⟨r19, A19, k19, rfl, o19, c19, q19⟩
    have z19 := c19.size
    have y19 := o19.lt
    refine VO.mv (Rn.assign rfl) rfl rfl rfl (VO.nil (VQ.then_code (VC.seq (VC.seq (VC.region (VO.mv (Rn.field Tryz.underlying179 rfl Tryz.sizeOf4 rfl rfl rfl) rfl rfl rfl ?_))))))
    have b3_18 := b3_17.keep c18
    have b3_19 := b3_18.to c19 (by first | exact id | omega)
    refine VO.mv (Rn.load Tryz.isAgg4 rfl (b3_19.cell rfl)) rfl rfl rfl (VO.nil (VQ.then_code (VC.cond rfl (fun hc7 => ?_) (fun hc7 => ?_))))
    ·
     try simp only [Bool.and_eq_true, Bool.or_eq_true, Bool.not_eq_true', Bool.not_eq_false', Bool.and_eq_false_iff, Bool.or_eq_false_iff, decide_eq_true_eq, decide_eq_false_iff_not] at hc7
     refine VC.region (VO.mv (Rn.move rfl) rfl rfl rfl (VO.mv (Rn.move rfl) rfl rfl rfl (VO.mv (Rn.nilCheck rfl) rfl rfl rfl (VO.mv (Rn.field Tryz.underlying119 rfl Tryz.sizeOf3 rfl rfl rfl) rfl rfl rfl (VO.wk (Wk.lit Tryz.underlying151 inf154w33 (by decide) rfl rfl (by rfl) (by decide) (by decide) (by rfl)) rfl rfl rfl ?_)))))
     rintro _ w20 ⟨p20, rfl, N20⟩
     have c20 := N20.ch
     have e20 := N20.p; have z20 := N20.size
     have l52 := SlR.of_new (sz := 1) (l := 1) N20 rfl
     have l52o := Ow.of_new (sz := 1) (l := 1) N20 rfl (by decide)
     have row_20 := o19.keep c20
     refine VO.wk (Wk.append (S := _) Tryz.underlying151 inf154w33 rfl (by decide) rfl rfl row_20 l52 (by rfl) (fun h => by simp at h) (by omega) (by simp only [maxLen]; omega)) rfl rfl rfl ?_
     rintro _ w21 ⟨r21, A21, k21, rfl, o21, c21, q21⟩
     have z21 := c21.size
     have y21 := o21.lt
     refine VO.mv (Rn.assign rfl) rfl rfl rfl (VO.nil (VQ.then_code (VC.seq (VC.region (VO.mv (Rn.move rfl) rfl rfl rfl (VO.mv (Rn.assign rfl) rfl rfl rfl (VO.nil ?_)))))))
     refine VQ.then_code (VC.ret (VQ.ret1 rfl rfl (Ret.mk ?_)))
     have hlen := o21.1
     have cc_0_4 : Ch No w w4 := (((Ch.then (E := No) c1 c2 (by intro q h1 h2; rcases h2 with h2 | h2 <;> first | exact h2 | (exfalso; omega))).and c3).and c4)
     have CH_4 := (Ch.refl (No) w).and cc_0_4
     have CH_5 : Ch (No) w w5 := CH_4.then c5 (by intro q h1 h2; rcases h2 with h2 | h2 <;> first | exact h2 | (exfalso; omega) | omega)
     have CH_16 := CH_5.and c16
     have CH_17 : Ch (No) w w17 := CH_16.then c17 (by intro q h1 h2; rcases h2 with h2 | h2 <;> first | exact h2 | (exfalso; omega) | omega)
     have CH_18 := CH_17.and c18
     have CH_19 : Ch (No) w w19 := CH_18.then c19 (by intro q h1 h2; rcases h2 with h2 | h2 <;> first | exact h2 | (exfalso; omega) | omega)
     have CH_20 := CH_19.and c20
     have CH_21 : Ch (No) w w21 := CH_20.then c21 (by intro q h1 h2; rcases h2 with h2 | h2 <;> first | exact h2 | (exfalso; omega) | omega)
     exact ⟨r21, A21, k21, by simp [fieldIx, *], (o21).to' (by simp [fieldIx, *]) (by simp [fieldIx, flat, Value.cells, *]), by omega, CH_21⟩
    ·
     try simp only [Bool.and_eq_true, Bool.or_eq_true, Bool.not_eq_true', Bool.not_eq_false', Bool.and_eq_false_iff, Bool.or_eq_false_iff, decide_eq_true_eq, decide_eq_false_iff_not] at hc7
     refine VC.skip (VQ.then_code (VC.seq (VC.region (VO.mv (Rn.move rfl) rfl rfl rfl (VO.mv (Rn.assign rfl) rfl rfl rfl (VO.nil (VQ.then_code ?_)))))))
     refine VC.ret (VQ.ret1 rfl rfl (Ret.mk ?_))
     have hlen := o19.1
     have cc_0_4 : Ch No w w4 := (((Ch.then (E := No) c1 c2 (by intro q h1 h2; rcases h2 with h2 | h2 <;> first | exact h2 | (exfalso; omega))).and c3).and c4)
     have CH_4 := (Ch.refl (No) w).and cc_0_4
     have CH_5 : Ch (No) w w5 := CH_4.then c5 (by intro q h1 h2; rcases h2 with h2 | h2 <;> first | exact h2 | (exfalso; omega) | omega)
     have CH_16 := CH_5.and c16
     have CH_17 : Ch (No) w w17 := CH_16.then c17 (by intro q h1 h2; rcases h2 with h2 | h2 <;> first | exact h2 | (exfalso; omega) | omega)
     have CH_18 := CH_17.and c18
     have CH_19 : Ch (No) w w19 := CH_18.then c19 (by intro q h1 h2; rcases h2 with h2 | h2 <;> first | exact h2 | (exfalso; omega) | omega)
     exact ⟨r19, A19, k19, by simp [fieldIx, *], (o19).to' (by simp [fieldIx, *]) (by simp [fieldIx, flat, Value.cells, *]), by omega, CH_19⟩
   ·
    refine VC.skip (VQ.then_code (VC.seq (VC.seq (VC.region (VO.mv (Rn.field Tryz.underlying179 rfl Tryz.sizeOf4 rfl rfl rfl) rfl rfl rfl (VO.mv (Rn.load Tryz.isAgg4 rfl (b3_17.cell rfl)) rfl rfl rfl (VO.nil ?_)))))))
    refine VQ.then_code (VC.cond rfl (fun hc8 => ?_) (fun hc8 => ?_))
    ·
     try simp only [Bool.and_eq_true, Bool.or_eq_true, Bool.not_eq_true', Bool.not_eq_false', Bool.and_eq_false_iff, Bool.or_eq_false_iff, decide_eq_true_eq, decide_eq_false_iff_not] at hc8
     refine VC.region (VO.mv (Rn.move rfl) rfl rfl rfl (VO.mv (Rn.move rfl) rfl rfl rfl (VO.mv (Rn.nilCheck rfl) rfl rfl rfl (VO.mv (Rn.field Tryz.underlying119 rfl Tryz.sizeOf3 rfl rfl rfl) rfl rfl rfl (VO.wk (Wk.lit Tryz.underlying151 inf154w33 (by decide) rfl rfl (by rfl) (by decide) (by decide) (by rfl)) rfl rfl rfl ?_)))))
     rintro _ w22 ⟨p22, rfl, N22⟩
     have c22 := N22.ch
     have e22 := N22.p; have z22 := N22.size
     have l52 := SlR.of_new (sz := 1) (l := 1) N22 rfl
     have l52o := Ow.of_new (sz := 1) (l := 1) N22 rfl (by decide)
     have row_22 := o17.keep c22
     refine VO.wk (Wk.append (S := _) Tryz.underlying151 inf154w33 rfl (by decide) rfl rfl row_22 l52 (by rfl) (fun h => by simp at h) (by omega) (by simp only [maxLen]; omega)) rfl rfl rfl ?_
     rintro _ w23 ⟨r23, A23, k23, rfl, o23, c23, q23⟩
     have z23 := c23.size
     have y23 := o23.lt
     refine VO.mv (Rn.assign rfl) rfl rfl rfl (VO.nil (VQ.then_code (VC.seq (VC.region (VO.mv (Rn.move rfl) rfl rfl rfl (VO.mv (Rn.assign rfl) rfl rfl rfl (VO.nil ?_)))))))
     refine VQ.then_code (VC.ret (VQ.ret1 rfl rfl (Ret.mk ?_)))
     have hlen := o23.1
     have cc_0_4 : Ch No w w4 := (((Ch.then (E := No) c1 c2 (by intro q h1 h2; rcases h2 with h2 | h2 <;> first | exact h2 | (exfalso; omega))).and c3).and c4)
     have CH_4 := (Ch.refl (No) w).and cc_0_4
     have CH_5 : Ch (No) w w5 := CH_4.then c5 (by intro q h1 h2; rcases h2 with h2 | h2 <;> first | exact h2 | (exfalso; omega) | omega)
     have CH_16 := CH_5.and c16
     have CH_17 : Ch (No) w w17 := CH_16.then c17 (by intro q h1 h2; rcases h2 with h2 | h2 <;> first | exact h2 | (exfalso; omega) | omega)
     have CH_22 := CH_17.and c22
     have CH_23 : Ch (No) w w23 := CH_22.then c23 (by intro q h1 h2; rcases h2 with h2 | h2 <;> first | exact h2 | (exfalso; omega) | omega)
     exact ⟨r23, A23, k23, by simp [fieldIx, *], (o23).to' (by simp [fieldIx, *]) (by simp [fieldIx, flat, Value.cells, *]), by omega, CH_23⟩
    ·
     try simp only [Bool.and_eq_true, Bool.or_eq_true, Bool.not_eq_true', Bool.not_eq_false', Bool.and_eq_false_iff, Bool.or_eq_false_iff, decide_eq_true_eq, decide_eq_false_iff_not] at hc8
     refine VC.skip (VQ.then_code (VC.seq (VC.region (VO.mv (Rn.move rfl) rfl rfl rfl (VO.mv (Rn.assign rfl) rfl rfl rfl (VO.nil (VQ.then_code ?_)))))))
     refine VC.ret (VQ.ret1 rfl rfl (Ret.mk ?_))
     have hlen := o17.1
     have cc_0_4 : Ch No w w4 := (((Ch.then (E := No) c1 c2 (by intro q h1 h2; rcases h2 with h2 | h2 <;> first | exact h2 | (exfalso; omega))).and c3).and c4)
     have CH_4 := (Ch.refl (No) w).and cc_0_4
     have CH_5 : Ch (No) w w5 := CH_4.then c5 (by intro q h1 h2; rcases h2 with h2 | h2 <;> first | exact h2 | (exfalso; omega) | omega)
     have CH_16 := CH_5.and c16
     have CH_17 : Ch (No) w w17 := CH_16.then c17 (by intro q h1 h2; rcases h2 with h2 | h2 <;> first | exact h2 | (exfalso; omega) | omega)
     exact ⟨r17, A17, k17, by simp [fieldIx, *], (o17).to' (by simp [fieldIx, *]) (by simp [fieldIx, flat, Value.cells, *]), by omega, CH_17⟩
 ·
  try simp only [Bool.and_eq_true, Bool.or_eq_true, Bool.not_eq_true', Bool.not_eq_false', Bool.and_eq_false_iff, Bool.or_eq_false_iff, decide_eq_true_eq, decide_eq_false_iff_not] at hc1
  refine VC.skip (VQ.then_code (VC.seq (VC.seq (VC.region (VO.mv (Rn.field Tryz.underlying179 rfl Tryz.sizeOf4 rfl rfl rfl) rfl rfl rfl (VO.mv (Rn.load Tryz.isAgg4 rfl (b3_3.cell rfl)) rfl rfl rfl (VO.nil ?_)))))))
  refine VQ.then_code (VC.cond rfl (fun hc9 => ?_) (fun hc9 => ?_))
  ·
   try simp only [Bool.and_eq_true, Bool.or_eq_true, Bool.not_eq_true', Bool.not_eq_false', Bool.and_eq_false_iff, Bool.or_eq_false_iff, decide_eq_true_eq, decide_eq_false_iff_not] at hc9
   refine VC.region (VO.mv (Rn.move rfl) rfl rfl rfl (VO.mv (Rn.move rfl) rfl rfl rfl (VO.mv (Rn.nilCheck rfl) rfl rfl rfl (VO.mv (Rn.field Tryz.underlying119 rfl Tryz.sizeOf3 rfl rfl rfl) rfl rfl rfl (VO.wk (Wk.lit Tryz.underlying151 inf154w33 (by decide) rfl rfl (by rfl) (by decide) (by decide) (by rfl)) rfl rfl rfl ?_)))))
   rintro _ w24 ⟨p24, rfl, N24⟩
   have c24 := N24.ch
   have e24 := N24.p; have z24 := N24.size
   have l29 := SlR.of_new (sz := 1) (l := 1) N24 rfl
   have l29o := Ow.of_new (sz := 1) (l := 1) N24 rfl (by decide)
   have l14o_24 := l14o.keep c24
   refine VO.wk (Wk.append (S := _) Tryz.underlying151 inf154w33 rfl (by decide) rfl rfl l14o_24 l29 (by rfl) (fun h => by simp at h) (by omega) (by simp only [maxLen]; omega)) rfl rfl rfl ?_
   rintro _ w25 ⟨r25, A25, k25, rfl, o25, c25, q25⟩
   have z25 := c25.size
   have y25 := o25.lt
   refine VO.mv (Rn.assign rfl) rfl rfl rfl (VO.nil (VQ.then_code (VC.seq (VC.region (VO.mv (Rn.move rfl) rfl rfl rfl (VO.mv (Rn.move rfl) rfl rfl rfl (VO.mv (Rn.nilCheck rfl) rfl rfl rfl ?_)))))))
   refine VO.mv (Rn.field Tryz.underlying119 rfl Tryz.sizeOf3 rfl rfl rfl) rfl rfl rfl (VO.wk (Wk.lit Tryz.underlying151 inf154w33 (by decide) rfl rfl (by rfl) (by decide) (by decide) (by rfl)) rfl rfl rfl ?_)
   rintro _ w26 ⟨p26, rfl, N26⟩
   have c26 := N26.ch
   have e26 := N26.p; have z26 := N26.size
   have l35 := SlR.of_new (sz := 1) (l := 1) N26 rfl
   have l35o := Ow.of_new (sz := 1) (l := 1) N26 rfl (by decide)
   have row_26 := o25.keep c26
   refine VO.wk (Wk.append (S := _) Tryz.underlying151 inf154w33 rfl (by decide) rfl rfl row_26 l35 (by rfl) (fun h => by simp at h) (by omega) (by simp only [maxLen]; omega)) rfl rfl rfl ?_
   rintro _ w27 ⟨r27, A27, k27, rfl, o27, c27, q27⟩
   have z27 := c27.size
   have y27 := o27.lt
   refine VO.mv (Rn.assign rfl) rfl rfl rfl (VO.nil (VQ.then_code (VC.seq (VC.seq (VC.region (VO.mv (Rn.field Tryz.underlying179 rfl Tryz.sizeOf3 rfl rfl rfl) rfl rfl rfl ?_))))))
   have b3_24 := b3_3.keep c24
   have b3_25 := b3_24.to c25 (by first | exact id | omega)
   have b3_26 := b3_25.keep c26
   have b3_27 := b3_26.to c27 (by first | exact id | omega)
   refine VO.mv (Rn.load Tryz.isAgg3 rfl (b3_27.cell rfl)) rfl rfl rfl (VO.mv (Rn.gtr rfl rfl) rfl rfl rfl (VO.nil (VQ.then_code (VC.cond_if rfl (fun hc10 => ?_) (fun hc10 => ?_)))))
   ·
    refine VC.region (VO.mv (Rn.move rfl) rfl rfl rfl (VO.mv (Rn.move rfl) rfl rfl rfl (VO.mv (Rn.nilCheck rfl) rfl rfl rfl (VO.mv (Rn.field Tryz.underlying119 rfl Tryz.sizeOf3 rfl rfl rfl) rfl rfl rfl (VO.wk (Wk.lit Tryz.underlying151 inf154w33 (by decide) rfl rfl (by rfl) (by decide) (by decide) (by rfl)) rfl rfl rfl ?_)))))
    rintro _ w28 ⟨p28, rfl, N28⟩
    have c28 := N28.ch
    have e28 := N28.p; have z28 := N28.size
    have l44 := SlR.of_new (sz := 1) (l := 1) N28 rfl
    have l44o := Ow.of_new (sz := 1) (l := 1) N28 rfl (by decide)
    have row_28 := o27.keep c28
    refine VO.wk (Wk.append (S := _) Tryz.underlying151 inf154w33 rfl (by decide) rfl rfl row_28 l44 (by rfl) (fun h => by simp at h) (by omega) (by simp only [maxLen]; omega)) rfl rfl rfl ?_
    rintro _ w29 ⟨r29, A29, k29, rfl, o29, c29, q29⟩
    have z29 := c29.size
    have y29 := o29.lt
    refine VO.mv (Rn.assign rfl) rfl rfl rfl (VO.nil (VQ.then_code (VC.seq (VC.seq (VC.region (VO.mv (Rn.field Tryz.underlying179 rfl Tryz.sizeOf4 rfl rfl rfl) rfl rfl rfl ?_))))))
    have b3_28 := b3_27.keep c28
    have b3_29 := b3_28.to c29 (by first | exact id | omega)
    refine VO.mv (Rn.load Tryz.isAgg4 rfl (b3_29.cell rfl)) rfl rfl rfl (VO.nil (VQ.then_code (VC.cond rfl (fun hc11 => ?_) (fun hc11 => ?_))))
    ·
     try simp only [Bool.and_eq_true, Bool.or_eq_true, Bool.not_eq_true', Bool.not_eq_false', Bool.and_eq_false_iff, Bool.or_eq_false_iff, decide_eq_true_eq, decide_eq_false_iff_not] at hc11
     refine VC.region (VO.mv (Rn.move rfl) rfl rfl rfl (VO.mv (Rn.move rfl) rfl rfl rfl (VO.mv (Rn.nilCheck rfl) rfl rfl rfl (VO.mv (Rn.field Tryz.underlying119 rfl Tryz.sizeOf3 rfl rfl rfl) rfl rfl rfl (VO.wk (Wk.lit Tryz.underlying151 inf154w33 (by decide) rfl rfl (by rfl) (by decide) (by decide) (by rfl)) rfl rfl rfl ?_)))))
     rintro _ w30 ⟨p30, rfl, N30⟩
     have c30 := N30.ch
     have e30 := N30.p; have z30 := N30.size
     have l52 := SlR.of_new (sz := 1) (l := 1) N30 rfl
     have l52o := Ow.of_new (sz := 1) (l := 1) N30 rfl (by decide)
     have row_30 := o29.keep c30
     refine VO.wk (Wk.append (S := _) Tryz.underlying151 inf154w33 rfl (by decide) rfl rfl row_30 l52 (by rfl) (fun h => by simp at h) (by omega) (by simp only [maxLen]; omega)) rfl rfl rfl ?_
     rintro _ w31 ⟨r31, A31, k31, rfl, o31, c31, q31⟩
     have z31 := c31.size
     have y31 := o31.lt
     refine VO.mv (Rn.assign rfl) rfl rfl rfl (VO.nil (VQ.then_code (VC.seq (VC.region (VO.mv (Rn.move rfl) rfl rfl rfl (VO.mv (Rn.assign rfl) rfl rfl rfl (VO.nil ?_)))))))
     refine VQ.then_code (VC.ret (VQ.ret1 rfl rfl (Ret.mk ?_)))
     have hlen := o31.1
     have cc_0_24 : Ch No w w24 := (((Ch.then (E := No) c1 c2 (by intro q h1 h2; rcases h2 with h2 | h2 <;> first | exact h2 | (exfalso; omega))).and c3).and c24)
     have CH_24 := (Ch.refl (No) w).and cc_0_24
     have CH_25 : Ch (No) w w25 := CH_24.then c25 (by intro q h1 h2; rcases h2 with h2 | h2 <;> first | exact h2 | (exfalso; omega) | omega)
     have CH_26 := CH_25.and c26
     have CH_27 : Ch (No) w w27 := CH_26.then c27 (by intro q h1 h2; rcases h2 with h2 | h2 <;> first | exact h2 | (exfalso; omega) | omega)
     have CH_28 := CH_27.and c28
     have CH_29 : Ch (No) w w29 := CH_28.then c29 (by intro q h1 h2; rcases h2 with h2 | h2 <;> first | exact h2 | (exfalso; omega) | omega)
     have CH_30 := CH_29.and c30
     have CH_31 : Ch (No) w w31 := CH_30.then c31 (by intro q h1 h2; rcases h2 with h2 | h2 <;> first | exact h2 | (exfalso; omega) | omega)
     exact ⟨r31, A31, k31, by simp [fieldIx, *], (o31).to' (by simp [fieldIx, *]) (by simp [fieldIx, flat, Value.cells, *]), by omega, CH_31⟩
    ·
     try simp only [Bool.and_eq_true, Bool.or_eq_true, Bool.not_eq_true', Bool.not_eq_false', Bool.and_eq_false_iff, Bool.or_eq_false_iff, decide_eq_true_eq, decide_eq_false_iff_not] at hc11
     refine VC.skip (VQ.then_code (VC.seq (VC.region (VO.mv (Rn.move rfl) rfl rfl rfl (VO.mv (Rn.assign rfl) rfl rfl rfl (VO.nil (VQ.then_code ?_)))))))
     refine VC.ret (VQ.ret1 rfl rfl (Ret.mk ?_))
     have hlen := o29.1
     have cc_0_24 : Ch No w w24 := (((Ch.then (E := No) c1 c2 (by intro q h1 h2; rcases h2 with h2 | h2 <;> first | exact h2 | (exfalso; omega))).and c3).and c24)
     have CH_24 := (Ch.refl (No) w).and cc_0_24
     have CH_25 : Ch (No) w w25 := CH_24.then c25 (by intro q h1 h2; rcases h2 with h2 | h2 <;> first | exact h2 | (exfalso; omega) | omega)
     have CH_26 := CH_25.and c26
     have CH_27 : Ch (No) w w27 := CH_26.then c27 (by intro q h1 h2; rcases h2 with h2 | h2 <;> first | exact h2 | (exfalso; omega) | omega)
     have CH_28 := CH_27.and c28
     have CH_29 : Ch (No) w w29 := CH_28.then c29 (by intro q h1 h2; rcases h2 with h2 | h2 <;> first | exact h2 | (exfalso; omega) | omega)
     exact ⟨r29, A29, k29, by simp [fieldIx, *], (o29).to' (by simp [fieldIx, *]) (by simp [fieldIx, flat, Value.cells, *]), by omega, CH_29⟩
   ·
    refine VC.skip (VQ.then_code (VC.seq (VC.seq (VC.region (VO.mv (Rn.field Tryz.underlying179 rfl Tryz.sizeOf4 rfl rfl rfl) rfl rfl rfl (VO.mv (Rn.load Tryz.isAgg4 rfl (b3_27.cell rfl)) rfl rfl rfl (VO.nil ?_)))))))
    refine VQ.then_code (VC.cond rfl (fun hc12 => ?_) (fun hc12 => ?_))
    ·
     try simp only [Bool.and_eq_true, Bool.or_eq_true, Bool.not_eq_true', Bool.not_eq_false', Bool.and_eq_false_iff, Bool.or_eq_false_iff, decide_eq_true_eq, decide_eq_false_iff_not] at hc12
     refine VC.region (VO.mv (Rn.move rfl) rfl rfl rfl (VO.mv (Rn.move rfl) rfl rfl rfl (VO.mv (Rn.nilCheck rfl) rfl rfl rfl (VO.mv (Rn.field Tryz.underlying119 rfl Tryz.sizeOf3 rfl rfl rfl) rfl rfl rfl (VO.wk (Wk.lit Tryz.underlying151 inf154w33 (by decide) rfl rfl (by rfl) (by decide) (by decide) (by rfl)) rfl rfl rfl ?_)))))
     rintro _ w32 ⟨p32, rfl, N32⟩
     have c32 := N32.ch
     have e32 := N32.p; have z32 := N32.size
     have l52 := SlR.of_new (sz := 1) (l := 1) N32 rfl
     have l52o := Ow.of_new (sz := 1) (l := 1) N32 rfl (by decide)
     have row_32 := o27.keep c32
     refine VO.wk (Wk.append (S := _) Tryz.underlying151 inf154w33 rfl (by decide) rfl rfl row_32 l52 (by rfl) (fun h => by simp at h) (by omega) (by simp only [maxLen]; omega)) rfl rfl rfl ?_
     rintro _ w33 ⟨r33, A33, k33, rfl, o33, c33, q33⟩
     have z33 := c33.size
     have y33 := o33.lt
     refine VO.mv (Rn.assign rfl) rfl rfl rfl (VO.nil (VQ.then_code (VC.seq (VC.region (VO.mv (Rn.move rfl) rfl rfl rfl (VO.mv (Rn.assign rfl) rfl rfl rfl (VO.nil ?_)))))))
     refine VQ.then_code (VC.ret (VQ.ret1 rfl rfl (Ret.mk ?_)))
     have hlen := o33.1
     have cc_0_24 : Ch No w w24 := (((Ch.then (E := No) c1 c2 (by intro q h1 h2; rcases h2 with h2 | h2 <;> first | exact h2 | (exfalso; omega))).and c3).and c24)
     have CH_24 := (Ch.refl (No) w).and cc_0_24
     have CH_25 : Ch (No) w w25 := CH_24.then c25 (by intro q h1 h2; rcases h2 with h2 | h2 <;> first | exact h2 | (exfalso; omega) | omega)
     have CH_26 := CH_25.and c26
     have CH_27 : Ch (No) w w27 := CH_26.then c27 (by intro q h1 h2; rcases h2 with h2 | h2 <;> first | exact h2 | (exfalso; omega) | omega)
     have CH_32 := CH_27.and c32
     have CH_33 : Ch (No) w w33 := CH_32.then c33 (by intro q h1 h2; rcases h2 with h2 | h2 <;> first | exact h2 | (exfalso; omega) | omega)
     exact ⟨r33, A33, k33, by simp [fieldIx, *], (o33).to' (by simp [fieldIx, *]) (by simp [fieldIx, flat, Value.cells, *]), by omega, CH_33⟩
    ·
     try simp only [Bool.and_eq_true, Bool.or_eq_true, Bool.not_eq_true', Bool.not_eq_false', Bool.and_eq_false_iff, Bool.or_eq_false_iff, decide_eq_true_eq, decide_eq_false_iff_not] at hc12
     refine VC.skip (VQ.then_code (VC.seq (VC.region (VO.mv (Rn.move rfl) rfl rfl rfl (VO.mv (Rn.assign rfl) rfl rfl rfl (VO.nil (VQ.then_code ?_)))))))
     refine VC.ret (VQ.ret1 rfl rfl (Ret.mk ?_))
     have hlen := o27.1
     have cc_0_24 : Ch No w w24 := (((Ch.then (E := No) c1 c2 (by intro q h1 h2; rcases h2 with h2 | h2 <;> first | exact h2 | (exfalso; omega))).and c3).and c24)
     have CH_24 := (Ch.refl (No) w).and cc_0_24
     have CH_25 : Ch (No) w w25 := CH_24.then c25 (by intro q h1 h2; rcases h2 with h2 | h2 <;> first | exact h2 | (exfalso; omega) | omega)
     have CH_26 := CH_25.and c26
     have CH_27 : Ch (No) w w27 := CH_26.then c27 (by intro q h1 h2; rcases h2 with h2 | h2 <;> first | exact h2 | (exfalso; omega) | omega)
     exact ⟨r27, A27, k27, by simp [fieldIx, *], (o27).to' (by simp [fieldIx, *]) (by simp [fieldIx, flat, Value.cells, *]), by omega, CH_27⟩
  ·
   try simp only [Bool.and_eq_true, Bool.or_eq_true, Bool.not_eq_true', Bool.not_eq_false', Bool.and_eq_false_iff, Bool.or_eq_false_iff, decide_eq_true_eq, decide_eq_false_iff_not] at hc9
   refine VC.skip (VQ.then_code (VC.seq (VC.region (VO.mv (Rn.move rfl) rfl rfl rfl (VO.mv (Rn.move rfl) rfl rfl rfl (VO.mv (Rn.nilCheck rfl) rfl rfl rfl (VO.mv (Rn.field Tryz.underlying119 rfl Tryz.sizeOf3 rfl rfl rfl) rfl rfl rfl ?_)))))))
   refine VO.wk (Wk.lit Tryz.underlying151 inf154w33 (by decide) rfl rfl (by rfl) (by decide) (by decide) (by rfl)) rfl rfl rfl ?_
   rintro _ w34 ⟨p34, rfl, N34⟩
   have c34 := N34.ch
   have e34 := N34.p; have z34 := N34.size
   have l35 := SlR.of_new (sz := 1) (l := 1) N34 rfl
   have l35o := Ow.of_new (sz := 1) (l := 1) N34 rfl (by decide)
   have l14o_34 := l14o.keep c34
   refine VO.wk (Wk.append (S := _) Tryz.underlying151 inf154w33 rfl (by decide) rfl rfl l14o_34 l35 (by rfl) (fun h => by simp at h) (by omega) (by simp only [maxLen]; omega)) rfl rfl rfl ?_
   rintro _ w35 ⟨r35, A35, k35, rfl, o35, c35, q35⟩
   have z35 := c35.size
   have y35 := o35.lt
   refine VO.mv (Rn.assign rfl) rfl rfl rfl (VO.nil (VQ.then_code (VC.seq (VC.seq (VC.region (VO.mv (Rn.field Tryz.underlying179 rfl Tryz.sizeOf3 rfl rfl rfl) rfl rfl rfl ?_))))))
   have b3_34 := b3_3.keep c34
   have b3_35 := b3_34.to c35 (by first | exact id | omega)
   refine VO.mv (Rn.load Tryz.isAgg3 rfl (b3_35.cell rfl)) rfl rfl rfl (VO.mv (Rn.gtr rfl rfl) rfl rfl rfl (VO.nil (VQ.then_code (VC.cond_if rfl (fun hc13 => ?_) (fun hc13 => ?_)))))
   ·
    refine VC.region (VO.mv (Rn.move rfl) rfl rfl rfl (VO.mv (Rn.move rfl) rfl rfl rfl (VO.mv (Rn.nilCheck rfl) rfl rfl rfl (VO.mv (Rn.field Tryz.underlying119 rfl Tryz.sizeOf3 rfl rfl rfl) rfl rfl rfl (VO.wk (Wk.lit Tryz.underlying151 inf154w33 (by decide) rfl rfl (by rfl) (by decide) (by decide) (by rfl)) rfl rfl rfl ?_)))))
    rintro _ w36 ⟨p36, rfl, N36⟩
    have c36 := N36.ch
    have e36 := N36.p; have z36 := N36.size
    have l44 := SlR.of_new (sz := 1) (l := 1) N36 rfl
    have l44o := Ow.of_new (sz := 1) (l := 1) N36 rfl (by decide)
    have row_36 := o35.keep c36
    refine VO.wk (Wk.append (S := _) Tryz.underlying151 inf154w33 rfl (by decide) rfl rfl row_36 l44 (by rfl) (fun h => by simp at h) (by omega) (by simp only [maxLen]; omega)) rfl rfl rfl ?_
    rintro _ w37 ⟨r37, A37, k37, rfl, o37, c37, q37⟩
    have z37 := c37.size
    have y37 := o37.lt
    refine VO.mv (Rn.assign rfl) rfl rfl rfl (VO.nil (VQ.then_code (VC.seq (VC.seq (VC.region (VO.mv (Rn.field Tryz.underlying179 rfl Tryz.sizeOf4 rfl rfl rfl) rfl rfl rfl ?_))))))
    have b3_36 := b3_35.keep c36
    have b3_37 := b3_36.to c37 (by first | exact id | omega)
    refine VO.mv (Rn.load Tryz.isAgg4 rfl (b3_37.cell rfl)) rfl rfl rfl (VO.nil (VQ.then_code (VC.cond rfl (fun hc14 => ?_) (fun hc14 => ?_))))
    ·
     try simp only [Bool.and_eq_true, Bool.or_eq_true, Bool.not_eq_true', Bool.not_eq_false', Bool.and_eq_false_iff, Bool.or_eq_false_iff, decide_eq_true_eq, decide_eq_false_iff_not] at hc14
     refine VC.region (VO.mv (Rn.move rfl) rfl rfl rfl (VO.mv (Rn.move rfl) rfl rfl rfl (VO.mv (Rn.nilCheck rfl) rfl rfl rfl (VO.mv (Rn.field Tryz.underlying119 rfl Tryz.sizeOf3 rfl rfl rfl) rfl rfl rfl (VO.wk (Wk.lit Tryz.underlying151 inf154w33 (by decide) rfl rfl (by rfl) (by decide) (by decide) (by rfl)) rfl rfl rfl ?_)))))
     rintro _ w38 ⟨p38, rfl, N38⟩
     have c38 := N38.ch
     have e38 := N38.p; have z38 := N38.size
     have l52 := SlR.of_new (sz := 1) (l := 1) N38 rfl
     have l52o := Ow.of_new (sz := 1) (l := 1) N38 rfl (by decide)
     have row_38 := o37.keep c38
     refine VO.wk (Wk.append (S := _) Tryz.underlying151 inf154w33 rfl (by decide) rfl rfl row_38 l52 (by rfl) (fun h => by simp at h) (by omega) (by simp only [maxLen]; omega)) rfl rfl rfl ?_
     rintro _ w39 ⟨r39, A39, k39, rfl, o39, c39, q39⟩
     have z39 := c39.size
     have y39 := o39.lt
     refine VO.mv (Rn.assign rfl) rfl rfl rfl (VO.nil (VQ.then_code (VC.seq (VC.region (VO.mv (Rn.move rfl) rfl rfl rfl (VO.mv (Rn.assign rfl) rfl rfl rfl (VO.nil ?_)))))))
     refine VQ.then_code (VC.ret (VQ.ret1 rfl rfl (Ret.mk ?_)))
     have hlen := o39.1
     have cc_0_34 : Ch No w w34 := (((Ch.then (E := No) c1 c2 (by intro q h1 h2; rcases h2 with h2 | h2 <;> first | exact h2 | (exfalso; omega))).and c3).and c34)
     have CH_34 := (Ch.refl (No) w).and cc_0_34
     have CH_35 : Ch (No) w w35 := CH_34.then c35 (by intro q h1 h2; rcases h2 with h2 | h2 <;> first | exact h2 | (exfalso; omega) | omega)
     have CH_36 := CH_35.and c36
     have CH_37 : Ch (No) w w37 := CH_36.then c37 (by intro q h1 h2; rcases h2 with h2 | h2 <;> first | exact h2 | (exfalso; omega) | omega)
     have CH_38 := CH_37.and c38
     have CH_39 : Ch (No) w w39 := CH_38.then c39 (by intro q h1 h2; rcases h2 with h2 | h2 <;> first | exact h2 | (exfalso; omega) | omega)
     exact ⟨r39, A39, k39, by simp [fieldIx, *], (o39).to' (by simp [fieldIx, *]) (by simp [fieldIx, flat, Value.cells, *]), by omega, CH_39⟩
    ·
     try simp only [Bool.and_eq_true, Bool.or_eq_true, Bool.not_eq_true', Bool.not_eq_false', Bool.and_eq_false_iff, Bool.or_eq_false_iff, decide_eq_true_eq, decide_eq_false_iff_not] at hc14
     refine VC.skip (VQ.then_code (VC.seq (VC.region (VO.mv (Rn.move rfl) rfl rfl rfl (VO.mv (Rn.assign rfl) rfl rfl rfl (VO.nil (VQ.then_code ?_)))))))
     refine VC.ret (VQ.ret1 rfl rfl (Ret.mk ?_))
     have hlen := o37.1
     have cc_0_34 : Ch No w w34 := (((Ch.then (E := No) c1 c2 (by intro q h1 h2; rcases h2 with h2 | h2 <;> first | exact h2 | (exfalso; omega))).and c3).and c34)
     have CH_34 := (Ch.refl (No) w).and cc_0_34
     have CH_35 : Ch (No) w w35 := CH_34.then c35 (by intro q h1 h2; rcases h2 with h2 | h2 <;> first | exact h2 | (exfalso; omega) | omega)
     have CH_36 := CH_35.and c36
     have CH_37 : Ch (No) w w37 := CH_36.then c37 (by intro q h1 h2; rcases h2 with h2 | h2 <;> first | exact h2 | (exfalso; omega) | omega)
     exact ⟨r37, A37, k37, by simp [fieldIx, *], (o37).to' (by simp [fieldIx, *]) (by simp [fieldIx, flat, Value.cells, *]), by omega, CH_37⟩
   ·
    refine VC.skip (VQ.then_code (VC.seq (VC.seq (VC.region (VO.mv (Rn.field Tryz.underlying179 rfl Tryz.sizeOf4 rfl rfl rfl) rfl rfl rfl (VO.mv (Rn.load Tryz.isAgg4 rfl (b3_35.cell rfl)) rfl rfl rfl (VO.nil ?_)))))))
    refine VQ.then_code (VC.cond rfl (fun hc15 => ?_) (fun hc15 => ?_))
    ·
     try simp only [Bool.and_eq_true, Bool.or_eq_true, Bool.not_eq_true', Bool.not_eq_false', Bool.and_eq_false_iff, Bool.or_eq_false_iff, decide_eq_true_eq, decide_eq_false_iff_not] at hc15
     refine VC.region (VO.mv (Rn.move rfl) rfl rfl rfl (VO.mv (Rn.move rfl) rfl rfl rfl (VO.mv (Rn.nilCheck rfl) rfl rfl rfl (VO.mv (Rn.field Tryz.underlying119 rfl Tryz.sizeOf3 rfl rfl rfl) rfl rfl rfl (VO.wk (Wk.lit Tryz.underlying151 inf154w33 (by decide) rfl rfl (by rfl) (by decide) (by decide) (by rfl)) rfl rfl rfl ?_)))))
     rintro _ w40 ⟨p40, rfl, N40⟩
     have c40 := N40.ch
     have e40 := N40.p; have z40 := N40.size
     have l52 := SlR.of_new (sz := 1) (l := 1) N40 rfl
     have l52o := Ow.of_new (sz := 1) (l := 1) N40 rfl (by decide)
     have row_40 := o35.keep c40
     refine VO.wk (Wk.append (S := _) Tryz.underlying151 inf154w33 rfl (by decide) rfl rfl row_40 l52 (by rfl) (fun h => by simp at h) (by omega) (by simp only [maxLen]; omega)) rfl rfl rfl ?_
     rintro _ w41 ⟨r41, A41, k41, rfl, o41, c41, q41⟩
     have z41 := c41.size
     have y41 := o41.lt
     refine VO.mv (Rn.assign rfl) rfl rfl rfl (VO.nil (VQ.then_code (VC.seq (VC.region (VO.mv (Rn.move rfl) rfl rfl rfl (VO.mv (Rn.assign rfl) rfl rfl rfl (VO.nil ?_)))))))
     refine VQ.then_code (VC.ret (VQ.ret1 rfl rfl (Ret.mk ?_)))
     have hlen := o41.1
     have cc_0_34 : Ch No w w34 := (((Ch.then (E := No) c1 c2 (by intro q h1 h2; rcases h2 with h2 | h2 <;> first | exact h2 | (exfalso; omega))).and c3).and c34)
     have CH_34 := (Ch.refl (No) w).and cc_0_34
     have CH_35 : Ch (No) w w35 := CH_34.then c35 (by intro q h1 h2; rcases h2 with h2 | h2 <;> first | exact h2 | (exfalso; omega) | omega)
     have CH_40 := CH_35.and c40
     have CH_41 : Ch (No) w w41 := CH_40.then c41 (by intro q h1 h2; rcases h2 with h2 | h2 <;> first | exact h2 | (exfalso; omega) | omega)
     exact ⟨r41, A41, k41, by simp [fieldIx, *], (o41).to' (by simp [fieldIx, *]) (by simp [fieldIx, flat, Value.cells, *]), by omega, CH_41⟩
    ·
     try simp only [Bool.and_eq_true, Bool.or_eq_true, Bool.not_eq_true', Bool.not_eq_false', Bool.and_eq_false_iff, Bool.or_eq_false_iff, decide_eq_true_eq, decide_eq_false_iff_not] at hc15
     refine VC.skip (VQ.then_code (VC.seq (VC.region (VO.mv (Rn.move rfl) rfl rfl rfl (VO.mv (Rn.assign rfl) rfl rfl rfl (VO.nil (VQ.then_code ?_)))))))
     refine VC.ret (VQ.ret1 rfl rfl (Ret.mk ?_))
     have hlen := o35.1
     have cc_0_34 : Ch No w w34 := (((Ch.then (E := No) c1 c2 (by intro q h1 h2; rcases h2 with h2 | h2 <;> first | exact h2 | (exfalso; omega))).and c3).and c34)
     have CH_34 := (Ch.refl (No) w).and cc_0_34
     have CH_35 : Ch (No) w w35 := CH_34.then c35 (by intro q h1 h2; rcases h2 with h2 | h2 <;> first | exact h2 | (exfalso; omega) | omega)
     exact ⟨r35, A35, k35, by simp [fieldIx, *], (o35).to' (by simp [fieldIx, *]) (by simp [fieldIx, flat, Value.cells, *]), by omega, CH_35⟩
set_option maxRecDepth 100000 in
theorem steps_head (p : Nat) (cs : Array Value) (w : World) (bp : Bk w p cs 93) :
  Calls Tryz.prog 85 #[.pointer (some ⟨p, 0, none⟩)] w (Ret (fun v w' => ∃ r A c, v = .slice A 4 c ∧ Ow w' r 154 1 A 4 c ([0, 1, 2, 3].map (ptrAt p)) ∧ w.heap.size < r ∧ Ch No w w')) := by
 refine calls_of_VC (args := [.pointer (some ⟨p, 0, none⟩)]) Tryz.func85 rfl Tryz.ntmps85 rfl (VC.seq (VC.region (VO.mv (Rn.assign rfl) rfl rfl rfl (VO.nil (VQ.then_code (VC.seq (VC.draws 13 [(0, true), (1, true), (2, true), (3, true), (4, true), (5, true), (6, true), (7, true), (8, true), (9, true), (10, true), (11, true), (12, false)] (fun w1 w' => Ch (No) w1 w') mixed (by kernel_rfl) (fun _ _ => Ch.refl _ _) ?_)))))))
 intro w1 D1
 have c1 := Ch.of_drew D1; have z1 := c1.size
 refine VH.mv (fun w' hS => Rn.move rfl) rfl rfl rfl rfl (VH.mv (fun w' hS => Rn.nilCheck rfl) rfl rfl rfl rfl (VH.mv (fun w' hS => Rn.field Tryz.underlying93 rfl Tryz.sizeOf3 rfl rfl rfl) rfl rfl rfl rfl (VH.mv (fun w' hS => Rn.move rfl) rfl rfl rfl rfl (VH.mv (fun w' hS => Rn.nilCheck rfl) rfl rfl rfl rfl (VH.mv (fun w' hS => Rn.field Tryz.underlying93 rfl Tryz.sizeOf3 rfl rfl rfl) rfl rfl rfl rfl (VH.mv (fun w' hS => Rn.move rfl) rfl rfl rfl rfl (VH.mv (fun w' hS => Rn.nilCheck rfl) rfl rfl rfl rfl ?_)))))))
 refine VH.mv (fun w' hS => Rn.field Tryz.underlying93 rfl Tryz.sizeOf3 rfl rfl rfl) rfl rfl rfl rfl (VH.mv (fun w' hS => Rn.move rfl) rfl rfl rfl rfl (VH.mv (fun w' hS => Rn.nilCheck rfl) rfl rfl rfl rfl (VH.mv (fun w' hS => Rn.field Tryz.underlying93 rfl Tryz.sizeOf3 rfl rfl rfl) rfl rfl rfl rfl (VH.wk (Wk.lit Tryz.underlying151 inf154w33 (by decide) rfl rfl (by rfl) (by decide) (by decide) (by rfl)) rfl rfl rfl rfl ?_))))
 rintro _ w2 ⟨p2, rfl, N2⟩
 have c2 := N2.ch
 have e2 := N2.p; have z2 := N2.size
 have l15 := SlR.of_new (sz := 1) (l := 4) N2 rfl
 have l15o := Ow.of_new (sz := 1) (l := 4) N2 rfl (by decide)
 have RD_2 := (Ch.refl (No) w1).and c2
 refine ⟨RD_2, ?_⟩
 refine VH.done (VO.mv (Rn.assign rfl) rfl rfl rfl (VO.nil (VQ.noPanic (VQ.then_code (VC.ret (VQ.ret1 rfl rfl (Ret.mk ?_)))))))
 have CH_2 := (Ch.refl (No) w).and (c1.trans c2)
 exact ⟨_, _, _, rfl, l15o, by omega, CH_2⟩
end Go.Tm
namespace Go.Tm
open Go.RowKit
theorem _root_.List.cons_getElem?_drop_succ' {α : Type} {L : List α} {j : Nat} {y : α} (h : L[j]? = some y) : y :: L.drop (j + 1) = L.drop j := by
  obtain ⟨hlt, rfl⟩ := List.getElem?_eq_some_iff.1 h
  exact (List.drop_eq_getElem_cons hlt).symm
abbrev strV (x : List UInt8) : Value := .string ⟨x.toArray⟩
section
variable {P : Program} {n : Fr} {k : K} {w : World} {d : Option Tmp} {ty : TypeId} {pos : String} {aft : Array Edge} {g : Option (Nat × Bool)}
theorem Rn.sliceLo {t e : TypeId} {sz l c : Nat} {A : Option Addr} {x y : Operand} {q : IntKind} {i : Int} (ht : P.underlying t = some (.slice e)) (hz : ∀ w, (sizeOf e).run P w = .ok sz w) (hx : ev k x = some (.slice A l c)) (hy : ev k y = some (.int q i)) (h0 : 0 ≤ i) (h1 : i ≤ l) (_hc : l ≤ c) :
    Rn P n k w { dst := d, op := .slice t x (some y) none none, type := ty, pos := pos, after := aft, guard := g } (.slice (if c = i.toNat then A else A.map (·.add (i.toNat * sz))) (l - i.toNat) (c - i.toNat)) :=
  fun a ha => by simp [execOp, ha.eval hx, ha.eval hy, Instr.sliceAt, Instr.slice, run_underlying ht, Instr.sliceBounds, Instr.sliceBound, asIntOf, h0, h1, hz]
theorem Rn.sliceHi {t e : TypeId} {sz l c : Nat} {A : Option Addr} {x y : Operand} {q : IntKind} {i : Int} (ht : P.underlying t = some (.slice e)) (hz : ∀ w, (sizeOf e).run P w = .ok sz w) (hx : ev k x = some (.slice A l c)) (hy : ev k y = some (.int q i)) (h0 : 0 ≤ i) (h1 : i ≤ c) :
    Rn P n k w { dst := d, op := .slice t x none (some y) none, type := ty, pos := pos, after := aft, guard := g } (.slice A i.toNat c) :=
  fun a ha => by
    have e : (if c = 0 then A else A.map (·.add (0 * sz))) = A := by
      cases A <;> simp [Addr.add]
    simp only [Nat.zero_mul] at e
    simp [execOp, ha.eval hx, ha.eval hy, Instr.sliceAt, Instr.slice, run_underlying ht, Instr.sliceBounds, Instr.sliceBound, asIntOf, h0, h1, hz, e]
theorem Ow.open' {r : Nat} {e : TypeId} {sz : Nat} {A : Option Addr} {l c : Nat} {cs : List Value} (h : Ow w r e sz A l c cs) (hl : 0 < l) : ∃ g cur, A = some ⟨g, 0, none⟩ ∧ r = g + 1 ∧ w.heap[g]? = some (.cells cur e (0, 0)) ∧ l ≤ c ∧ c ≤ maxLen ∧ cur.size = c * sz ∧ cur.toList.take (l * sz) = cs := by
  rcases h.2 with ⟨_, h, _⟩ | h
  · omega
  · exact h
theorem Wk.putOw {t e : TypeId} {r l c i : Nat} {A : Option Addr} {cs : List Value} {x y : Operand} {v : Value} (hz : ∀ w, (sizeOf t).run P w = .ok 1 w) (hx : ev k x = some (.pointer (some ((sAddr A).add (i * 1))))) (hy : ev k y = some v) (hv : v.oneCell' = true) (hi : i < l) (hown : Ow w r e 1 A l c cs) :
    Wk P n k w { dst := none, op := .store t x y, type := ty, pos := pos, after := aft, guard := g } (fun _ w' => Ow w' r e 1 A l c (cs.set i v) ∧ Ch (At r) w w' ∧ w'.heap.size = w.heap.size) := by
  obtain ⟨g', cur, rfl, rfl, hg, hlc, hcm, hcs, ht⟩ := hown.open' (by omega)
  have hx' : ev k x = some (.pointer (some ⟨g', i, none⟩)) := by
    rw [hx]; simp [sAddr, Addr.add_lit]
  have hsz : i < cur.size := by rw [hcs]; omega
  refine (Wk.put (cs := cur) (te := e) hz hx' hy hv (oneCell_cells hv) ⟨hg⟩ (Array.getElem?_eq_getElem hsz)).mono ?_
  intro _ w' hs
  refine ⟨⟨by simp [hown.len], .inr ⟨g', _, rfl, rfl, hs.same, hlc, hcm, by simp [hcs], ?_⟩⟩, hs.ch.more (fun q _ hq => by rw [hq]), hs.size⟩
  rw [Array.toList_setIfInBounds, Nat.mul_one, List.take_set]
  rw [Nat.mul_one] at ht
  rw [ht]
end
end Go.Tm
namespace Go.Tm
open Go.RowKit
section
variable {P : Program} {n : Fr} {k : K} {w : World} {d : Option Tmp} {ty : TypeId} {pos : String} {aft : Array Edge} {g : Option (Nat × Bool)} {t t' : TypeId} {x y : Operand} {q : IntKind} {a b : Int}
theorem Rn.eqlF (hx : ev k x = some (.int q a)) (hy : ev k y = some (.int q b)) (h : a ≠ b) : Rn P n k w { dst := d, op := .binOp .eql t x y t', type := ty, pos := pos, after := aft, guard := g } (.bool false) := by
  have := Rn.eql (P := P) (n := n) (w := w) (d := d) (ty := ty) (pos := pos) (aft := aft) (g := g) (t := t) (t' := t') hx hy
  rwa [decide_eq_false h] at this
theorem Rn.gtrF (hx : ev k x = some (.int q a)) (hy : ev k y = some (.int q b)) (h : ¬ b < a) : Rn P n k w { dst := d, op := .binOp .gtr t x y t', type := ty, pos := pos, after := aft, guard := g } (.bool false) := by
  have := Rn.gtr (P := P) (n := n) (w := w) (d := d) (ty := ty) (pos := pos) (aft := aft) (g := g) (t := t) (t' := t') hx hy
  rwa [decide_eq_false h] at this
end
end Go.Tm
namespace Go.Tm
open Go.RowKit Go.Proofs
theorem Rn.convTo {P : Program} {n : Fr} {k : K} {w : World} {d : Option Tmp} {ty : TypeId} {pos : String} {aft : Array Edge} {g : Option (Nat × Bool)} {s t : TypeId} {q q' : IntKind} {ds : TypeDesc} {x : Operand} {a r : Int} (hs : P.underlying s = some ds) (ht : P.underlying t = some (.int q')) (hx : ev k x = some (.int q a)) (hb : q'.wrap a = r) : Rn P n k w { dst := d, op := .convert s t x, type := ty, pos := pos, after := aft, guard := g } (.int q' r) := by
  subst hb; exact Rn.conv hs ht hx
theorem Rn.lssF {P : Program} {n : Fr} {k : K} {w : World} {d : Option Tmp} {ty : TypeId} {pos : String} {aft : Array Edge} {g : Option (Nat × Bool)} {t t' : TypeId} {x y : Operand} {q : IntKind} {a b : Int} (hx : ev k x = some (.int q a)) (hy : ev k y = some (.int q b)) (h : ¬ a < b) : Rn P n k w { dst := d, op := .binOp .lss t x y t', type := ty, pos := pos, after := aft, guard := g } (.bool false) := by
  have := Rn.lss (P := P) (n := n) (w := w) (d := d) (ty := ty) (pos := pos) (aft := aft) (g := g) (t := t) (t' := t') hx hy
  rwa [decide_eq_false h] at this
theorem steps_form_ok (s : Stp) (w : World) (st : StT w) (hn : -1000000000 ≤ s.n ∧ s.n ≤ 1000000000) (h : formM s = true) : Calls Tryz.prog 87 #[.agg #[.int .i64 s.op, .int .i64 s.dst, .int .i64 s.src, .int .i64 s.jump, .int .i64 s.count, .int .i64 s.n, .int .i64 s.k]] w (Ret fun v w' => v = .bool true ∧ Ch No w w') := by
  refine (steps_form s w st hn).mono ?_
  rintro e w' ⟨v, rfl, rfl, h3⟩
  exact ⟨_, rfl, by rw [h], h3⟩
theorem fromM_n {has : Bool} {x lo hi : Int} (h : fromM has x lo hi = true) (h0 : 0 ≤ lo) (h1 : hi ≤ 16384) : 0 ≤ x ∧ x ≤ 16384 := by
  cases has
  · have : x = 0 := by simpa [fromM] using h
    omega
  · have := fromM_bd h; omega
theorem form_n {s : Stp} (h : formM s = true) : 0 ≤ s.n ∧ s.n ≤ 16384 := by
  unfold formM at h
  split at h
  · cases h
  have kn : ∀ i, kN i ≤ 16384 := by intro i; unfold kN; split <;> (try split) <;> (try split) <;> omega
  have h2 : (fromM true s.dst 0 262143 && fromM true s.count 1 262144 && fromM (kSrc s.op.toNat) s.src 0 262143 && fromM (kJmp s.op.toNat) s.jump 1 262144 && fromM (decide (kN s.op.toNat > 0)) s.n (if s.op = 5 then 2 else 1) (kN s.op.toNat) && fromM (kK s.op.toNat) s.k 0 (s.n - 1)) = true := by
    cases hq : (fromM true s.dst 0 262143 && fromM true s.count 1 262144 && fromM (kSrc s.op.toNat) s.src 0 262143 && fromM (kJmp s.op.toNat) s.jump 1 262144 && fromM (decide (kN s.op.toNat > 0)) s.n (if s.op = 5 then 2 else 1) (kN s.op.toNat) && fromM (kK s.op.toNat) s.k 0 (s.n - 1)) with
    | true => rfl
    | false =>
      simp only [hq, if_true] at h
      cases h
  simp only [Bool.and_eq_true] at h2
  exact fromM_n h2.1.2 (by split <;> omega) (kn _)
theorem four_get {i : Nat} (h : i < 4) : ([0, 1, 2, 3] : List Nat)[i]? = some i := by
  match i, h with
  | 0, _ => rfl
  | 1, _ => rfl
  | 2, _ => rfl
  | 3, _ => rfl
theorem fieldIx_len (op : Nat) : (fieldIx op).length ≤ 6 := by
  unfold fieldIx
  simp only [List.length_append]
  split <;> split <;> split <;> split <;> simp
theorem nat_of {x : Int} (h : 0 ≤ x) : ∃ n : Nat, x = n := ⟨x.toNat, by omega⟩
abbrev hdB (b : Bld) : List UInt8 := b.hd.flatMap fun x => uintB x.toNat
theorem take_flat {α : Type} (L : List α) (f : α → List UInt8) {i : Nat} {x : α} (h : L[i]? = some x) : (L.take (i + 1)).flatMap f = (L.take i).flatMap f ++ f x := by
  rw [List.take_add_one, h]; simp
set_option maxHeartbeats 8000000 in
set_option maxRecDepth 100000 in
theorem steps_Encode (b : Bld) (ok : okB b) (S : Nat → Prop) (A : Option Addr) (c : Nat) (w : World) (st : StT w) (sb : SlR S w A b.steps.length 7 (flatS b.steps)) (hS : ∀ y, S y → y < w.heap.size) (hG : 24 ≤ w.heap.size) :
  Calls Tryz.prog 66 #[.agg #[.int .i64 b.ln, .int .i64 b.cl, .int .i64 b.i0, .int .i64 b.ou, .slice A b.steps.length c]] w (Ret (fun v w' => ∃ r A' c', v = .tuple #[.slice A' (encB b).length c', .nilIface] ∧ Ow w' r 5 1 A' (encB b).length c' (Lib.byteCells (encB b)) ∧ (r = 0 ∨ w.heap.size < r) ∧ (encB b).length ≤ 5000000 ∧ Ch No w w')) := by
 have hlen := ok.len
 have hul := uintB_len (n := b.steps.length) (by omega)
 have hun := uintB_ne b.steps.length
 refine calls_of_VC (args := [.agg #[.int .i64 b.ln, .int .i64 b.cl, .int .i64 b.i0, .int .i64 b.ou, .slice A b.steps.length c]]) Tryz.func66 rfl Tryz.ntmps66 rfl (VC.seq (VC.region (VO.wk (Wk.box rfl) rfl rfl rfl ?_)))
 rintro _ w1 ⟨p1, rfl, N1⟩
 have c1 := N1.ch
 have e1 := N1.p; have z1 := N1.size
 have b1 := Bk.new N1
 refine VO.mv (Rn.assign rfl) rfl rfl rfl (VO.mv (Rn.assign rfl) rfl rfl rfl (VO.nil (VQ.then_code (VC.seq (VC.seq (VC.region (VO.mv (Rn.field Tryz.underlying93 rfl Tryz.sizeOf91 rfl rfl rfl) rfl rfl rfl ?_)))))))
 refine VO.mv (Rn.load Tryz.isAgg91 rfl (b1.cell rfl)) rfl rfl rfl (VO.mv (Rn.len Tryz.underlying91 rfl) rfl rfl rfl (VO.mv (Rn.gtr rfl rfl) rfl rfl rfl (VO.nil (VQ.then_code (VC.cond_if rfl (fun hc1 => ?_) (fun hc1 => ?_))))))
 ·
  omega
 ·
  refine VC.skip (VQ.then_code (VC.seq (VC.region (VO.wk (Wk.call Tryz.call84 rfl (pack_New _)) rfl rfl rfl ?_))))
  rintro _ w2 ⟨qw, rfl, wr2, yqw, c2⟩
  have lw2 := wr2.lt
  have z2 := c2.size
  refine VO.mv (Rn.assign rfl) rfl rfl rfl (VO.nil (VQ.then_code (VC.seq (VC.seq (VC.region ?_)))))
  have b1_2 := b1.keep c2
  refine VO.wk (Wk.call Tryz.call85 rfl (steps_head _ _ _ b1_2)) rfl rfl rfl ?_
  rintro _ w3 ⟨rh, hA, hc, rfl, hl3, yrh, c3⟩
  have lhl3 := hl3.lt
  have z3 := c3.size
  refine VO.mv (Rn.len Tryz.underlying151 rfl) rfl rfl rfl (VO.mv (Rn.move rfl) rfl rfl rfl (VO.nil (VQ.then_code (VC.block ?_))))
  have wr_3 := wr2.keep c3
  have b1_3 := b1_2.keep c3
  have sb_3 := sb.keep (c1.trans (c2.trans c3))
  have st_3 := st.keep (c1.trans (c2.trans c3))
  have CH_3 := (Ch.refl (No) w).and (c1.trans (c2.trans c3))
  refine VC.loopS (σ := Nat × List UInt8 × Nat) (fun (i, o, r2) => [(1, .pointer (some ⟨p1, 0, none⟩)), (4, .pointer (some ⟨qw, 0, none⟩)), (17, .slice hA 4 hc), (18, .int .i64 4), (19, .int .i64 i)]) (fun (i, o, r2) w' => i ≤ 4 ∧ o = (b.hd.take i).flatMap (fun x => uintB x.toNat) ∧ o.length ≤ 10 * i ∧ (r2 = 0 ∨ w3.heap.size < r2) ∧ w3.heap.size ≤ w'.heap.size ∧ WrR w' qw r2 o ∧ Bk w' p1 (bldC b A c) 93 ∧ Ow w' rh 154 1 hA 4 hc ([0, 1, 2, 3].map (ptrAt p1)) ∧ SlR S w' A b.steps.length 7 (flatS b.steps) ∧ StT w' ∧ Ch (No) w w') (fun (i, o, r2) => 4 - i) (0, [], 0) ?_ ⟨rfl, rfl, rfl, rfl, rfl, trivial⟩ ?_
  · exact ⟨(by omega), (by simp), (by simp), (by omega), (Nat.le_refl _), wr_3, b1_3, hl3, sb_3, st_3, CH_3⟩
  rintro ⟨i, o, r2⟩ w4 ⟨hi, ho, hol, hr2, hsz4, wr_4, b1_4, hl_4, sb_4, st_4, CH_4⟩
  show VC _ _ _ _ [(1, .pointer (some ⟨p1, 0, none⟩)), (4, .pointer (some ⟨qw, 0, none⟩)), (17, .slice hA 4 hc), (18, .int .i64 4), (19, .int .i64 i)] _
  have lwr := wr_4.lt
  refine VC.seq (VC.region (VO.mv (Rn.lss rfl rfl) rfl rfl rfl (VO.nil (VQ.then_code (VC.seq (VC.cond_if rfl (fun hc2 => ?_) (fun hc2 => ?_)))))))
  ·
   refine VC.skip (VQ.then_code (VC.seq (VC.block (VC.seq ?_))))
   have hi4 : i < 4 := by omega
   obtain ⟨x', hx'⟩ : ∃ x', b.hd[i]? = some x' := ⟨_, List.getElem?_eq_getElem (show i < b.hd.length by show i < 4; omega)⟩
   have hxb := ok.hd x' (List.mem_of_getElem? hx')
   obtain ⟨x, rfl⟩ := nat_of hxb.1
   have hx := hx'
   have hux := uintB_len (n := x) (by omega)
   refine VC.region (VO.mv (Rn.indexS Tryz.underlying151 Tryz.sizeOf154 rfl rfl (hl_4.sl.ne (by omega)) (by omega) (by omega)) rfl rfl rfl (VO.mv (Rn.load Tryz.isAgg154 rfl (ptr_get hl_4.sl (four_get hi4))) rfl rfl rfl (VO.mv (Rn.assign rfl) rfl rfl rfl (VO.nil (VQ.then_code (VC.seq (VC.seq ?_)))))))
   refine VC.region (VO.mv (Rn.move rfl) rfl rfl rfl (VO.mv (Rn.nilCheck rfl) rfl rfl rfl (VO.mv (Rn.load Tryz.isAgg3 rfl (b1_4.cell (hd_cell b A c hx))) rfl rfl rfl (VO.mv (Rn.lssF rfl rfl (by omega)) rfl rfl rfl (VO.mv (Rn.move rfl) rfl rfl rfl (VO.mv (Rn.move rfl) rfl rfl rfl (VO.mv (Rn.nilCheck rfl) rfl rfl rfl ?_)))))))
   refine VO.mv (Rn.load Tryz.isAgg3 rfl (b1_4.cell (hd_cell b A c hx))) rfl rfl rfl (VO.mv (Rn.gtrF rfl rfl (by omega)) rfl rfl rfl (VO.mv (Rn.pick_false rfl rfl) rfl rfl rfl (VO.nil (VQ.then_code (VC.cond_false rfl (VC.skip (VQ.then_code ?_)))))))
   refine VC.region (VO.mv (Rn.move rfl) rfl rfl rfl (VO.mv (Rn.move rfl) rfl rfl rfl (VO.mv (Rn.nilCheck rfl) rfl rfl rfl (VO.mv (Rn.load Tryz.isAgg3 rfl (b1_4.cell (hd_cell b A c hx))) rfl rfl rfl ?_))))
   refine VO.mv (Rn.convTo Tryz.underlying3 Tryz.underlying38 rfl (r := ((x : Nat) : Int)) (by rw [IntKind.wrap_u64]; omega)) rfl rfl rfl ?_
   refine VO.wk (Wk.call Tryz.call86 rfl (pack_Uint qw r2 (o) (x) (by omega) _ wr_4 (by first | omega | (simp; done) | (simp; omega)))) rfl rfl rfl ?_
   rintro _ w5 ⟨rw5, rfl, wr5, yw5, c5⟩
   have lw5 := wr5.lt
   have z5 := c5.size
   refine VO.nil (VQ.block_normal (VQ.then_code (VC.region ?_)))
   refine VO.mv (Rn.add rfl rfl (by rw [IntKind.wrap_i64]; omega)) rfl rfl rfl ?_
   refine VO.mv (Rn.move rfl) rfl rfl rfl (VO.nil ?_)
   refine VQ.round (i + 1, o ++ uintB x, rw5) (by (dsimp only; omega)) ?_ ⟨rfl, rfl, rfl, rfl, rfl, trivial⟩
   have b1_5 := b1_4.to c5 (by first | exact id | omega)
   have hl_5 := hl_4.to c5 (by first | exact fun _ _ _ _ => id | (intro q h1 h2 hx h3; omega))
   have sb_5 := sb_4.to c5 (by first | exact fun _ _ _ _ => id | (intro q h1 h2 hx h3; have := hS q h2; omega))
   have st_5 := st_4.to c5 (by first | exact fun _ _ _ _ => id | (intro q h1 h2 hx h3; omega))
   have CH_5 : Ch (No) w w5 := CH_4.then c5 (by intro q h1 h2; rcases h2 with h2 | h2 <;> first | exact h2 | (exfalso; omega) | omega)
   exact ⟨(by omega), (by rw [take_flat _ _ hx, ho]; simp), (by rw [List.length_append]; omega), (by omega), (by omega), wr5, b1_5, hl_5, sb_5, st_5, CH_5⟩
  ·
   refine VC.exit (VQ.then_exit (VQ.then_exit (VQ.block_exit (VQ.then_code (VC.seq ?_)))))
   have hoh : o = hdB b := by rw [ho, List.take_of_length_le (show b.hd.length ≤ i by show 4 ≤ i; omega)]
   clear ho; subst hoh
   refine VC.region (VO.mv (Rn.move rfl) rfl rfl rfl (VO.mv (Rn.field Tryz.underlying93 rfl Tryz.sizeOf91 rfl rfl rfl) rfl rfl rfl (VO.mv (Rn.load Tryz.isAgg91 rfl (b1_4.cell rfl)) rfl rfl rfl (VO.mv (Rn.len Tryz.underlying91 rfl) rfl rfl rfl ?_))))
   refine VO.mv (Rn.convTo Tryz.underlying3 Tryz.underlying38 rfl (r := ((b.steps.length : Nat) : Int)) (by rw [IntKind.wrap_u64]; omega)) rfl rfl rfl ?_
   refine VO.wk (Wk.call Tryz.call86 rfl (pack_Uint qw r2 (hdB b) (b.steps.length) (by omega) _ wr_4 (by first | omega | (simp; done) | (simp; omega)))) rfl rfl rfl ?_
   rintro _ w6 ⟨rw6, rfl, wr6, yw6, c6⟩
   have lw6 := wr6.lt
   have z6 := c6.size
   refine VO.nil (VQ.then_code (VC.seq (VC.seq (VC.region (VO.mv (Rn.field Tryz.underlying93 rfl Tryz.sizeOf91 rfl rfl rfl) rfl rfl rfl ?_)))))
   have b1_6 := b1_4.to c6 (by first | exact id | omega)
   refine VO.mv (Rn.load Tryz.isAgg91 rfl (b1_6.cell rfl)) rfl rfl rfl (VO.mv (Rn.len Tryz.underlying91 rfl) rfl rfl rfl (VO.mv (Rn.move rfl) rfl rfl rfl (VO.nil (VQ.then_code (VC.block ?_)))))
   have sb_6 := sb_4.to c6 (by first | exact fun _ _ _ _ => id | (intro q h1 h2 hx h3; have := hS q h2; omega))
   have st_6 := st_4.to c6 (by first | exact fun _ _ _ _ => id | (intro q h1 h2 hx h3; omega))
   have CH_6 : Ch (No) w w6 := CH_4.then c6 (by intro q h1 h2; rcases h2 with h2 | h2 <;> first | exact h2 | (exfalso; omega) | omega)
   refine VC.loopS (σ := Nat × List UInt8 × Nat) (fun (i, o, r2) => [(4, .pointer (some ⟨qw, 0, none⟩)), (48, .slice A b.steps.length c), (49, .int .i64 b.steps.length), (50, .int .i64 i)]) (fun (i, o, r2) w' => i ≤ b.steps.length ∧ o = hdB b ++ uintB b.steps.length ++ (b.steps.take i).flatMap encS ∧ o.length ≤ 50 + 70 * i ∧ (r2 = 0 ∨ w.heap.size < r2) ∧ w6.heap.size ≤ w'.heap.size ∧ WrR w' qw r2 o ∧ SlR S w' A b.steps.length 7 (flatS b.steps) ∧ StT w' ∧ Ch (No) w w') (fun (i, o, r2) => b.steps.length - i) (0, hdB b ++ uintB b.steps.length, rw6) ?_ ⟨rfl, rfl, rfl, rfl, trivial⟩ ?_
   · exact ⟨(by omega), (by simp), (by rw [List.length_append]; omega), (by omega), (Nat.le_refl _), wr6, sb_6, st_6, CH_6⟩
   rintro ⟨i, o, r2⟩ w7 ⟨hi, ho, hol, hr2, hsz7, wr_7, sb_7, st_7, CH_7⟩
   show VC _ _ _ _ [(4, .pointer (some ⟨qw, 0, none⟩)), (48, .slice A b.steps.length c), (49, .int .i64 b.steps.length), (50, .int .i64 i)] _
   have lwr := wr_7.lt
   refine VC.seq (VC.region (VO.mv (Rn.lss rfl rfl) rfl rfl rfl (VO.nil (VQ.then_code (VC.seq (VC.cond_if rfl (fun hc3 => ?_) (fun hc3 => ?_)))))))
   ·
    refine VC.skip (VQ.then_code (VC.seq (VC.block (VC.seq ?_))))
    obtain ⟨s, hs⟩ : ∃ s, b.steps[i]? = some s := ⟨_, List.getElem?_eq_getElem (by omega)⟩
    have hfm := ok.st s (List.mem_of_getElem? hs)
    have hnb := form_n hfm
    have hfb := form_bd hfm
    have hfl := fieldIx_len s.op.toNat
    obtain ⟨op, hop⟩ := nat_of (show 0 ≤ s.op by omega)
    have huo := uintB_len (n := op) (by omega)
    have ks := sl_step sb_7 rfl hs
    refine VC.region (VO.mv (Rn.indexS Tryz.underlying91 Tryz.sizeOf119 rfl rfl (sb_7.ne (by omega)) (by omega) (by omega)) rfl rfl rfl (VO.mv (Rn.loads Tryz.isAgg119 Tryz.sizeOf119 rfl rfl ks.1) rfl rfl rfl (VO.wk (Wk.alloc Tryz.zeroValue119) rfl rfl rfl ?_)))
    rintro _ w8 ⟨p8, rfl, N8⟩
    have c8 := N8.ch
    have e8 := N8.p; have z8 := N8.size
    have b8 := Bk.new N8
    refine VO.wk0 (Wk.puts Tryz.sizeOf119 rfl rfl rfl rfl b8 (Nat.le_of_ble_eq_true rfl)) rfl rfl ?_
    intro _ w9 Z9
    have c9 := Z9.ch; have z9 := Z9.size
    have b8_9 := Bk.put Z9
    refine VO.nil (VQ.then_code (VC.seq (VC.seq (VC.region (VO.mv (Rn.loads Tryz.isAgg119 Tryz.sizeOf119 rfl rfl (b8_9.all' rfl)) rfl rfl rfl ?_)))))
    have cc_7_9 : Ch No w7 w9 := (Ch.then (E := No) c8 c9 (by intro q h1 h2; rcases h2 with h2 | h2 <;> first | exact h2 | (exfalso; omega)))
    have st_9 := st_7.keep cc_7_9
    refine VO.wk (Wk.call Tryz.call87 rfl (steps_form_ok s _ st_9 (by omega) hfm)) rfl rfl rfl ?_
    rintro _ w10 ⟨rfl, c10⟩
    have z10 := c10.size
    refine VO.mv (Rn.not rfl) rfl rfl rfl (VO.nil (VQ.then_code (VC.cond_false rfl (VC.skip (VQ.then_code (VC.seq (VC.region ?_)))))))
    refine VO.mv (Rn.move rfl) rfl rfl rfl (VO.mv (Rn.field Tryz.underlying119 rfl Tryz.sizeOf3 rfl rfl rfl) rfl rfl rfl ?_)
    have b8_10 := b8_9.keep c10
    refine VO.mv (Rn.load Tryz.isAgg3 rfl (b8_10.cell rfl)) rfl rfl rfl ?_
    refine VO.mv (Rn.convTo Tryz.underlying3 Tryz.underlying38 rfl (r := ((op : Nat) : Int)) (by rw [IntKind.wrap_u64]; omega)) rfl rfl rfl ?_
    have cc_7_10 : Ch No w7 w10 := ((Ch.then (E := No) c8 c9 (by intro q h1 h2; rcases h2 with h2 | h2 <;> first | exact h2 | (exfalso; omega))).and c10)
    have wr_10 := wr_7.keep cc_7_10
    refine VO.wk (Wk.call Tryz.call86 rfl (pack_Uint qw r2 (o) (op) (by omega) _ wr_10 (by first | omega | (simp; done) | (simp; omega)))) rfl rfl rfl ?_
    rintro _ w11 ⟨rw11, rfl, wr11, yw11, c11⟩
    have lw11 := wr11.lt
    have z11 := c11.size
    refine VO.nil (VQ.then_code (VC.seq (VC.region ?_)))
    have st_10 := st_9.keep c10
    have st_11 := st_10.to c11 (by first | exact fun _ _ _ _ => id | (intro q h1 h2 hx h3; omega))
    have b8_11 := b8_10.to c11 (by first | exact id | omega)
    refine VO.wk (Wk.call Tryz.call88 rfl (steps_fields p8 s (by omega) _ st_11 b8_11)) rfl rfl rfl ?_
    rintro _ w12 ⟨rf, fA, fc, rfl, fl12, yrf, c12⟩
    have lfl12 := fl12.lt
    have z12 := c12.size
    refine VO.mv (Rn.len Tryz.underlying151 rfl) rfl rfl rfl (VO.mv (Rn.move rfl) rfl rfl rfl (VO.nil (VQ.then_code (VC.block ?_))))
    have wr_12 := wr11.keep c12
    have sb_10 := sb_7.keep cc_7_10
    have sb_11 := sb_10.to c11 (by first | exact fun _ _ _ _ => id | (intro q h1 h2 hx h3; have := hS q h2; omega))
    have sb_12 := sb_11.keep c12
    have st_12 := st_11.keep c12
    have b8_12 := b8_11.keep c12
    have CH_10 := CH_7.and cc_7_10
    have CH_11 : Ch (No) w w11 := CH_10.then c11 (by intro q h1 h2; rcases h2 with h2 | h2 <;> first | exact h2 | (exfalso; omega) | omega)
    have CH_12 := CH_11.and c12
    refine VC.loopS (σ := Nat × List UInt8 × Nat) (fun (j, o2, r3) => [(4, .pointer (some ⟨qw, 0, none⟩)), (8, .pointer (some ⟨p8, 0, none⟩)), (48, .slice A b.steps.length c), (49, .int .i64 b.steps.length), (50, .int .i64 i), (63, .slice fA (fieldIx s.op.toNat).length fc), (64, .int .i64 (fieldIx s.op.toNat).length), (65, .int .i64 j)]) (fun (j, o2, r3) w' => j ≤ (fieldIx s.op.toNat).length ∧ o2 = o ++ uintB op ++ ((fieldIx s.op.toNat).take j).flatMap (fun ix => uintB (s.val ix).toNat) ∧ o2.length ≤ 60 + 70 * i + 10 * j ∧ (r3 = rw11 ∨ w12.heap.size < r3) ∧ w12.heap.size ≤ w'.heap.size ∧ WrR w' qw r3 o2 ∧ SlR S w' A b.steps.length 7 (flatS b.steps) ∧ StT w' ∧ Bk w' p8 s.cells.toArray 119 ∧ Ow w' rf 154 1 fA (fieldIx s.op.toNat).length fc ((fieldIx s.op.toNat).map (ptrAt p8)) ∧ Ch (No) w w') (fun (j, o2, r3) => (fieldIx s.op.toNat).length - j) (0, o ++ uintB op, rw11) ?_ ⟨rfl, rfl, rfl, rfl, rfl, rfl, rfl, rfl, trivial⟩ ?_
    · exact ⟨(by omega), (by simp), (by rw [List.length_append]; omega), (by omega), (Nat.le_refl _), wr_12, sb_12, st_12, b8_12, fl12, CH_12⟩
    rintro ⟨j, o2, r3⟩ w13 ⟨hj0, ho2, hol2, hr3, hsz13, wr_13, sb_13, st_13, b8_13, fl_13, CH_13⟩
    show VC _ _ _ _ [(4, .pointer (some ⟨qw, 0, none⟩)), (8, .pointer (some ⟨p8, 0, none⟩)), (48, .slice A b.steps.length c), (49, .int .i64 b.steps.length), (50, .int .i64 i), (63, .slice fA (fieldIx s.op.toNat).length fc), (64, .int .i64 (fieldIx s.op.toNat).length), (65, .int .i64 j)] _
    have lwr := wr_13.lt
    refine VC.seq (VC.region (VO.mv (Rn.lss rfl rfl) rfl rfl rfl (VO.nil (VQ.then_code (VC.seq (VC.cond_if rfl (fun hc4 => ?_) (fun hc4 => ?_)))))))
    ·
     refine VC.skip (VQ.then_code (VC.seq (VC.block (VC.seq ?_))))
     obtain ⟨ix, hj⟩ : ∃ ix, (fieldIx s.op.toNat)[j]? = some ix := ⟨_, List.getElem?_eq_getElem (by omega)⟩
     have hix := List.mem_of_getElem? hj
     have hzb := hfb.2 ix hix
     obtain ⟨z, hz⟩ := nat_of hzb.1
     have hcl := s.cell_at (j := ix) (by have := fieldIx_lt hix; omega)
     rw [hz] at hcl
     have huz := uintB_len (n := z) (by omega)
     refine VC.region (VO.mv (Rn.indexS Tryz.underlying151 Tryz.sizeOf154 rfl rfl (fl_13.sl.ne (by omega)) (by omega) (by omega)) rfl rfl rfl (VO.mv (Rn.load Tryz.isAgg154 rfl (ptr_get fl_13.sl hj)) rfl rfl rfl (VO.mv (Rn.assign rfl) rfl rfl rfl (VO.nil (VQ.then_code (VC.region (VO.mv (Rn.move rfl) rfl rfl rfl ?_)))))))
     refine VO.mv (Rn.move rfl) rfl rfl rfl (VO.mv (Rn.nilCheck rfl) rfl rfl rfl ?_)
     refine VO.mv (Rn.load Tryz.isAgg3 rfl (b8_13.cell (by rw [List.getElem?_toArray]; exact hcl))) rfl rfl rfl ?_
     refine VO.mv (Rn.convTo Tryz.underlying3 Tryz.underlying38 rfl (r := ((z : Nat) : Int)) (by rw [IntKind.wrap_u64]; omega)) rfl rfl rfl ?_
     refine VO.wk (Wk.call Tryz.call86 rfl (pack_Uint qw r3 (o2) (z) (by omega) _ wr_13 (by first | omega | (simp; done) | (simp; omega)))) rfl rfl rfl ?_
     rintro _ w14 ⟨rw14, rfl, wr14, yw14, c14⟩
     have lw14 := wr14.lt
     have z14 := c14.size
     refine VO.nil (VQ.block_normal (VQ.then_code (VC.region ?_)))
     refine VO.mv (Rn.add rfl rfl (by rw [IntKind.wrap_i64]; omega)) rfl rfl rfl ?_
     refine VO.mv (Rn.move rfl) rfl rfl rfl (VO.nil ?_)
     refine VQ.round (j + 1, o2 ++ uintB z, rw14) (by (dsimp only; omega)) ?_ ⟨rfl, rfl, rfl, rfl, rfl, rfl, rfl, rfl, trivial⟩
     have sb_14 := sb_13.to c14 (by first | exact fun _ _ _ _ => id | (intro q h1 h2 hx h3; have := hS q h2; omega))
     have st_14 := st_13.to c14 (by first | exact fun _ _ _ _ => id | (intro q h1 h2 hx h3; omega))
     have b8_14 := b8_13.to c14 (by first | exact id | omega)
     have fl_14 := fl_13.to c14 (by first | exact fun _ _ _ _ => id | (intro q h1 h2 hx h3; omega))
     have CH_14 : Ch (No) w w14 := CH_13.then c14 (by intro q h1 h2; rcases h2 with h2 | h2 <;> first | exact h2 | (exfalso; omega) | omega)
     exact ⟨(by omega), (by rw [take_flat _ _ hj, ← List.append_assoc, ← ho2, hz]; simp), (by rw [List.length_append]; omega), (by omega), (by omega), wr14, sb_14, st_14, b8_14, fl_14, CH_14⟩
    ·
     refine VC.exit (VQ.then_exit (VQ.then_exit (VQ.block_exit (VQ.block_normal (VQ.then_code (VC.region ?_))))))
     refine VO.mv (Rn.add rfl rfl (by rw [IntKind.wrap_i64]; omega)) rfl rfl rfl ?_
     refine VO.mv (Rn.move rfl) rfl rfl rfl (VO.nil ?_)
     refine VQ.round (i + 1, o2, r3) (by (dsimp only; omega)) ?_ ⟨rfl, rfl, rfl, rfl, trivial⟩
     exact ⟨(by omega), (by have e : op = s.op.toNat := (by omega); rw [take_flat _ _ hs, ← List.append_assoc, ← ho, ho2, List.take_of_length_le (by omega), e, encS, List.append_assoc]), (by omega), (by omega), (by omega), wr_13, sb_13, st_13, CH_13⟩
   ·
    refine VC.exit (VQ.then_exit (VQ.then_exit (VQ.block_exit (VQ.then_code (VC.seq ?_)))))
    have hoe : o = encB b := by rw [ho, List.take_of_length_le (by omega)]; rfl
    clear ho; subst hoe
    refine VC.region (VO.mv (Rn.move rfl) rfl rfl rfl (VO.wk (Wk.call Tryz.call89 rfl (pack_Out qw r2 (encB b) _ wr_7 (by omega))) rfl rfl rfl ?_))
    rintro _ w15 ⟨ro15, oA15, oc15, rfl, out15, yo15, c15⟩
    have lo15 := out15.lt
    have z15 := c15.size
    refine VO.mv (Rn.assign rfl) rfl rfl rfl (VO.mv (Rn.assign rfl) rfl rfl rfl (VO.nil (VQ.then_code (VC.ret (VQ.ret2 rfl rfl rfl (Ret.mk ?_))))))
    have CH_15 := CH_7.and c15
    exact ⟨_, _, _, rfl, out15, by omega, by omega, CH_15⟩
end Go.Tm
namespace Go.Tm
open Go.RowKit
abbrev Fl := Option Nat
def cn (b : Nat) : Fl := if (FloatKind.f64.decode b).isNaN then none else some b
def fop (op : BinOp) (x y : Fl) : Fl := match x, y with
  | some a, some b => floatBits op .f64 a b
  | _, _ => none
abbrev fadd := fop .add
abbrev fsub := fop .sub
abbrev fmul := fop .mul
abbrev fquo := fop .quo
def fneg (x : Fl) : Fl := x.map fun b => b ^^^ 2 ^ 63
theorem decode_nan {b : Nat} : (FloatKind.f64.decode b).isNaN = decide (2 ^ 52 * (2 ^ 11 - 1) < b % 2 ^ 63) := by
  have e1 : Ieee.double.signWeight = 2 ^ 63 := rfl
  have e2 : Ieee.double.binade = 2 ^ 52 := rfl
  have e3 : Ieee.double.infRung = (2 ^ 11 - 1) * 2 ^ 52 := rfl
  show (Ieee.double.read b).isNaN = _
  unfold Ieee.Format.read
  simp only [e1, e2, e3]
  split
  · rename_i h
    have : ¬ (2 ^ 52 * (2 ^ 11 - 1) < b % 2 ^ 63) := by omega
    simp [Ieee.Datum.isNaN, this]
  · split
    · rename_i h
      have : ¬ (2 ^ 52 * (2 ^ 11 - 1) < b % 2 ^ 63) := by omega
      simp [Ieee.Datum.isNaN, this]
    · split
      · rename_i h
        have : ¬ (2 ^ 52 * (2 ^ 11 - 1) < b % 2 ^ 63) := by omega
        simp [Ieee.Datum.isNaN, this]
      · have : 2 ^ 52 * (2 ^ 11 - 1) < b % 2 ^ 63 := by omega
        simp [Ieee.Datum.isNaN, this]
theorem cn_eq (b : Nat) : cn b = if 2 ^ 52 * (2 ^ 11 - 1) < b % 2 ^ 63 then none else some b := by
  unfold cn; rw [decode_nan]; simp
theorem write_num {d : Ieee.Datum} (h : d.isNaN = false) : cn (Ieee.double.write d) = some (Ieee.double.write d) := by
  rw [cn_eq, if_neg]
  have e1 : Ieee.double.signWeight = 2 ^ 63 := rfl
  have e3 : Ieee.double.infRung = (2 ^ 11 - 1) * 2 ^ 52 := rfl
  have key : ∀ (s : Bool) (r : Nat), r ≤ (2 ^ 11 - 1) * 2 ^ 52 → ¬ (2 ^ 52 * (2 ^ 11 - 1) < Ieee.double.word s r % 2 ^ 63) := by
    intro s r hr
    unfold Ieee.Format.word
    rw [e1]
    split <;> omega
  cases d with
  | number s m p =>
    show ¬ (_ < Ieee.double.nearest s m p % _)
    unfold Ieee.Format.nearest
    simp only
    split
    · exact key s 0 (by omega)
    · refine key s _ ?_
      rw [e3]
      exact Nat.min_le_right _ _
  | infinity s => exact key s _ (by rw [e3]; exact Nat.le_refl _)
  | nan s f => simp [Ieee.Datum.isNaN] at h
theorem sum_num {x y d : Ieee.Datum} (h : x.sum y = some d) : d.isNaN = false := by
  cases x <;> cases y <;> simp only [Ieee.Datum.sum] at h <;> first
    | (cases h; done)
    | (injection h with h; subst h; rfl)
    | (split at h <;> first | (injection h with h; subst h; rfl) | cases h)
theorem product_num {x y d : Ieee.Datum} (h : x.product y = some d) : d.isNaN = false := by
  cases x <;> cases y <;> simp only [Ieee.Datum.product] at h <;> first
    | (cases h; done)
    | (injection h with h; subst h; rfl)
    | (split at h <;> first | (injection h with h; subst h; rfl) | cases h)
theorem quotient_num {n : Nat} {x y d : Ieee.Datum} (h : Ieee.Datum.quotient n x y = some d) : d.isNaN = false := by
  cases x <;> cases y <;> simp only [Ieee.Datum.quotient] at h <;> first
    | (cases h; done)
    | (injection h with h; subst h; rfl)
    | (split at h <;> first | (injection h with h; subst h; rfl) | (split at h <;> first | (injection h with h; subst h; rfl) | cases h) | cases h)
theorem map_num {o : Option Ieee.Datum} {r : Nat} (ho : ∀ d, o = some d → d.isNaN = false) (h : o.map Ieee.double.write = some r) : cn r = some r := by
  cases o with
  | none => cases h
  | some d => injection h with h; subst h; exact write_num (ho d rfl)
theorem floatBits_num {op : BinOp} {x y r : Nat} (h : floatBits op .f64 x y = some r) : cn r = some r := by
  unfold floatBits at h
  split at h
  · exact map_num (fun d hd => sum_num hd) h
  · exact map_num (fun d hd => sum_num hd) h
  · exact map_num (fun d hd => product_num hd) h
  · exact map_num (fun d hd => quotient_num hd) h
  · cases h
theorem isNaN_nan {d : Ieee.Datum} (h : d.isNaN = true) : ∃ s f, d = .nan s f := by
  cases d <;> simp [Ieee.Datum.isNaN] at h
  exact ⟨_, _, rfl⟩
theorem floatBits_nanL {op : BinOp} {x y : Nat} (h : (FloatKind.f64.decode x).isNaN = true) : floatBits op .f64 x y = none := by
  obtain ⟨s, f, e⟩ := isNaN_nan h
  have e' : Ieee.double.read x = .nan s f := e
  unfold floatBits
  split <;> simp only [FloatKind.format, Ieee.Format.add, Ieee.Format.sub, Ieee.Format.mul, Ieee.Format.div, e'] <;> rfl
theorem floatBits_nanR {op : BinOp} {x y : Nat} (h : (FloatKind.f64.decode y).isNaN = true) : floatBits op .f64 x y = none := by
  obtain ⟨s, f, e⟩ := isNaN_nan h
  have e' : Ieee.double.read y = .nan s f := e
  unfold floatBits
  split <;> simp only [FloatKind.format, Ieee.Format.add, Ieee.Format.sub, Ieee.Format.mul, Ieee.Format.div, e', Ieee.Datum.opposite] <;> cases Ieee.double.read x <;> rfl
theorem floatBits_cn {op : BinOp} {x y : Nat} : fop op (cn x) (cn y) = floatBits op .f64 x y := by
  unfold cn
  split
  · rename_i h; rw [floatBits_nanL h]; rfl
  · split
    · rename_i h; rw [floatBits_nanR h]; rfl
    · rfl
theorem cut_nan (x y t : Nat) : cn (Question.cut (.nanBits .f64 x y) t) = none := by
  rw [cn_eq, if_pos]
  simp only [Question.cut]
  have h1 : t / 2 % (2 ^ 52 - 1) < 2 ^ 52 - 1 := Nat.mod_lt _ (by decide)
  have h2 : t % 2 < 2 := Nat.mod_lt _ (by decide)
  generalize t / 2 % (2 ^ 52 - 1) = u at *
  generalize t % 2 = s at *
  omega
theorem cn_neg (b : Nat) : cn (Op.negFloat .f64 b) = fneg (cn b) := by
  have e : Op.negFloat .f64 b = b ^^^ 2 ^ 63 := rfl
  have h : (b ^^^ 2 ^ 63) % 2 ^ 63 = b % 2 ^ 63 := by
    rw [Nat.xor_mod_two_pow]
    simp
  rw [e, cn_eq, cn_eq, h]
  unfold fneg
  split <;> rfl
section
variable {P : Program} {n : Fr} {k : K} {w : World} {d : Option Tmp} {ty : TypeId} {pos : String} {aft : Array Edge} {g : Option (Nat × Bool)}
theorem run_fl {op : BinOp} (hop : op = .add ∨ op = .sub ∨ op = .mul ∨ op = .quo) (a b : Nat) : ∃ r w', (Op.floatArith op .f64 a b).run P w = .ok (.float .f64 r) w' ∧ cn r = fop op (cn a) (cn b) ∧ Ch No w w' := by
  rw [floatBits_cn]
  have hrun : (Op.floatArith op .f64 a b).run P w = match floatBits op .f64 a b with
      | some r => .ok (.float .f64 r) w
      | none => .ok (.float .f64 (Question.cut (.nanBits .f64 a b) (w.tape w.drawn (.nanBits .f64 a b)))) w.drew := by
    rcases hop with rfl | rfl | rfl | rfl <;> simp only [Op.floatArith, floatBits] <;> simp only [Sem.run_bind, Sem.run_pure] <;> split <;> simp [*, Question.forced]
  cases h : floatBits op .f64 a b with
  | some r => rw [h] at hrun; exact ⟨r, w, hrun, floatBits_num h, Ch.refl _ _⟩
  | none => rw [h] at hrun; exact ⟨_, _, hrun, cut_nan _ _ _, Ch.of_drew rfl⟩
theorem Wk.fbin {op : BinOp} {t t' : TypeId} {x y : Operand} {a b : Nat} (hop : op = .add ∨ op = .sub ∨ op = .mul ∨ op = .quo) (hx : ev k x = some (.float .f64 a)) (hy : ev k y = some (.float .f64 b)) :
    Wk P n k w { dst := d, op := .binOp op t x y t', type := ty, pos := pos, after := aft, guard := g } (fun v w' => ∃ r, v = .float .f64 r ∧ cn r = fop op (cn a) (cn b) ∧ Ch No w w') :=
  Wk.of_run fun ac ha => by
    obtain ⟨r, w', hr, h1, h2⟩ := run_fl (P := P) (w := w) hop a b
    refine ⟨_, w', ?_, r, rfl, h1, h2⟩
    rcases hop with rfl | rfl | rfl | rfl <;> simp [execOp, ha.eval hx, ha.eval hy, eqGuard_add, eqGuard_sub, eqGuard_mul, eqGuard_quo, binOp, hr]
theorem Rn.fneg {t : TypeId} {x : Operand} {a : Nat} (hx : ev k x = some (.float .f64 a)) : Rn P n k w { dst := d, op := .unOp .neg t x, type := ty, pos := pos, after := aft, guard := g } (.float .f64 (Op.negFloat .f64 a)) :=
  fun a' ha => by simp [execOp, ha.eval hx, Op.unary]
theorem Rn.real {t : TypeId} {x : Operand} {a b : Nat} (hx : ev k x = some (.complex .f64 a b)) :
    Rn P n k w { dst := d, op := .call { callee := .builtin .real, args := #[x], argTypes := #[t] }, type := ty, pos := pos, after := aft, guard := g } (.float .f64 a) :=
  fun ac ha => by simp [execOp, resolve, invoke, builtin, ha.eval hx, show Builtin.real_ #[t] ty #[.complex .f64 a b] = pure (.float .f64 a) from rfl]
theorem Rn.imag {t : TypeId} {x : Operand} {a b : Nat} (hx : ev k x = some (.complex .f64 a b)) :
    Rn P n k w { dst := d, op := .call { callee := .builtin .imag, args := #[x], argTypes := #[t] }, type := ty, pos := pos, after := aft, guard := g } (.float .f64 b) :=
  fun ac ha => by simp [execOp, resolve, invoke, builtin, ha.eval hx, show Builtin.imag_ #[t] ty #[.complex .f64 a b] = pure (.float .f64 b) from rfl]
theorem Rn.complex {t t' : TypeId} {x y : Operand} {a b : Nat} (hx : ev k x = some (.float .f64 a)) (hy : ev k y = some (.float .f64 b)) :
    Rn P n k w { dst := d, op := .call { callee := .builtin .complex, args := #[x, y], argTypes := #[t, t'] }, type := ty, pos := pos, after := aft, guard := g } (.complex .f64 a b) :=
  fun ac ha => by simp [execOp, resolve, invoke, builtin, ha.eval hx, ha.eval hy, show Builtin.complex_ #[t, t'] ty #[.float .f64 a, .float .f64 b] = pure (.complex .f64 a b) from rfl]
theorem Rn.conv_if {s t : TypeId} {ds : TypeDesc} {x : Operand} {q : IntKind} {i : Int} (hs : P.underlying s = some ds) (ht : P.underlying t = some (.float .f64)) (hx : ev k x = some (.int q i)) :
    Rn P n k w { dst := d, op := .convert s t x, type := ty, pos := pos, after := aft, guard := g } (.float .f64 (FloatKind.f64.nearest i)) :=
  fun ac ha => by simp [execOp, ha.eval hx, convert, run_underlying hs, run_underlying ht, Conv.intToFloat]
end
end Go.Tm
namespace Go.Tm
open Go.RowKit
abbrev Cx := Fl × Fl
abbrev CB := Nat × Nat
abbrev cxV (z : CB) : Value := .complex .f64 z.1 z.2
def cx (z : CB) : Cx := (cn z.1, cn z.2)
abbrev CR (e : TypeId) (w : World) (r : Nat) (A : Option Addr) (l c : Nat) (xs : List CB) : Prop := Ow w r e 1 A l c (xs.map cxV)
theorem CR.len {e : TypeId} {w : World} {r : Nat} {A : Option Addr} {l c : Nat} {xs : List CB} (h : CR e w r A l c xs) : xs.length = l := by
  have := Ow.len h
  simpa using this
theorem made_one (z : Value) (n : Nat) : madeCells #[z] n = (List.replicate n z).toArray := by
  apply Array.ext <;> simp [madeCells, Nat.mod_one]
section
variable {P : Program} {n : Fr} {k : K} {w : World} {d : Option Tmp} {ty : TypeId} {pos : String} {aft : Array Edge} {g : Option (Nat × Bool)}
theorem Rn.feql {t t' : TypeId} {x y : Operand} {a b : Nat} (hx : ev k x = some (.float .f64 a)) (hy : ev k y = some (.float .f64 b)) :
    Rn P n k w { dst := d, op := .binOp .eql t x y t', type := ty, pos := pos, after := aft, guard := g } (.bool (Ieee.double.order a b == some .eq)) :=
  Rn.bin hx hy (fun x y => by simp [eqGuard, binOp, Op.floatCmp, FloatKind.format])
def ceq (x y : CB) : Bool := (Ieee.double.order x.1 y.1 == some .eq) && (Ieee.double.order x.2 y.2 == some .eq)
theorem Rn.minI {t t' : TypeId} {x y : Operand} {q : IntKind} {a b : Int} (hx : ev k x = some (.int q a)) (hy : ev k y = some (.int q b)) :
    Rn P n k w { dst := d, op := .call { callee := .builtin .min, args := #[x, y], argTypes := #[t, t'] }, type := ty, pos := pos, after := aft, guard := g } (.int q (if b < a then b else a)) :=
  fun ac ha => by simp [execOp, resolve, invoke, builtin, ha.eval hx, ha.eval hy, Builtin.min_, Builtin.min2]
theorem Wk.mkC {t e : TypeId} {by' : Nat} {x y : Operand} {ql qc : IntKind} {l : Int} (ht : P.underlying t = some (.slice e)) (hi : Inf P e (.complex .f64 0 0) 1 by') (hx : ev k x = some (.int ql l)) (hy : ev k y = some (.int qc l)) (h0 : 0 ≤ l) (hb : (by' : Int) * l ≤ 281474976710656) (hm : l ≤ 281474976710656) :
    Wk P n k w { dst := d, op := .makeSlice t x y, type := ty, pos := pos, after := aft, guard := g }
      (fun v w' => ∃ p, v = .slice (some ⟨p, 0, none⟩) l.toNat l.toNat ∧ CR e w' (p + 1) (some ⟨p, 0, none⟩) l.toNat l.toNat (List.replicate l.toNat (0, 0)) ∧ Ch No w w' ∧ p = w.heap.size ∧ w'.heap.size = w.heap.size + 1) :=
  (Wk.make ht hi hx hy h0 (Int.le_refl _) hb (by omega)).mono fun v w' ⟨p, hv, N⟩ => by
    rw [Nat.mul_one] at N
    have e1 : (Value.complex .f64 0 0).cells = #[.complex .f64 0 0] := rfl
    rw [e1, made_one] at N
    refine ⟨p, hv, ?_, N.ch, N.p, N.size⟩
    have : (List.replicate l.toNat ((0, 0) : CB)).map cxV = List.replicate l.toNat (.complex .f64 0 0) := by simp
    show Ow _ _ _ _ _ _ _ (List.map cxV _)
    rw [this]
    exact Ow.of_new N (by simp) (by simp only [maxLen]; omega)
theorem Wk.putC {t e : TypeId} {r l c i : Nat} {A : Option Addr} {xs : List CB} {x y : Operand} {a b : Nat} (hz : ∀ w, (sizeOf t).run P w = .ok 1 w) (hx : ev k x = some (.pointer (some ((sAddr A).add (i * 1))))) (hy : ev k y = some (.complex .f64 a b)) (hi : i < l) (hown : CR e w r A l c xs) :
    Wk P n k w { dst := none, op := .store t x y, type := ty, pos := pos, after := aft, guard := g } (fun _ w' => CR e w' r A l c (xs.set i (a, b)) ∧ Ch (At r) w w' ∧ w'.heap.size = w.heap.size) :=
  (Wk.putOw hz hx hy rfl hi hown).mono fun _ w' ⟨h1, h2, h3⟩ => ⟨by show Ow _ _ _ _ _ _ _ (List.map cxV _); rw [List.map_set]; exact h1, h2, h3⟩
theorem Wk.clearC {t e : TypeId} {by' r l c : Nat} {A : Option Addr} {xs : List CB} {x : Operand} (ht : P.underlying t = some (.slice e)) (hi : Inf P e (.complex .f64 0 0) 1 by') (hx : ev k x = some (.slice A l c)) (hown : CR e w r A l c xs) (hl : 0 < l) :
    Wk P n k w { dst := none, op := .call { callee := .builtin .clear, args := #[x], argTypes := #[t] }, type := ty, pos := pos, after := aft, guard := g } (fun _ w' => CR e w' r A l c (List.replicate l (0, 0)) ∧ Ch (At r) w w' ∧ w'.heap.size = w.heap.size) := by
  obtain ⟨g', cur, rfl, rfl, hg, hlc, hcm, hcs, htk⟩ := Ow.open' hown hl
  obtain ⟨inf, h1, h2, h3, h4⟩ := hi
  have hzv : (zeroValue e).run P w = .ok (.complex .f64 0 0) w := by simp [zeroValue, typeInfo, h1, h2]
  obtain ⟨m, rfl⟩ : ∃ m, l = m + 1 := ⟨l - 1, by omega⟩
  have hzc : ∀ u ∈ (Builtin.zeroCells (Value.complex .f64 0 0).cells (m + 1)).toList, u = .complex .f64 0 0 := fun u hu => by
    simp only [Builtin.zeroCells, show (Value.complex .f64 0 0).cells = #[.complex .f64 0 0] from rfl] at hu
    simp [Nat.mod_one] at hu
    exact hu.2.symm
  have hzl : (Builtin.zeroCells (Value.complex .f64 0 0).cells (m + 1)).toList.length = m + 1 := by simp [size_zeroCells, show (Value.complex .f64 0 0).cells = #[.complex .f64 0 0] from rfl]
  have hZ : (Builtin.zeroCells (Value.complex .f64 0 0).cells (m + 1)).toList = List.replicate (m + 1) (.complex .f64 0 0) := List.eq_replicate_iff.2 ⟨hzl, hzc⟩
  have hst := run_storeCells_at P g' 0 e (List.replicate (m + 1) (.complex .f64 0 0)) 0 cur w hg (by simp; omega) (fun u hu => by rw [List.eq_of_mem_replicate hu]; rfl)
  simp only [Nat.add_zero, Nat.zero_add, List.take_zero, List.nil_append] at hst
  have hs := Sts.of_row (w' := w.setRow g' (List.replicate (m + 1) (Value.complex .f64 0 0) ++ cur.toList.drop (List.replicate (m + 1) (Value.complex .f64 0 0)).length).toArray) rfl hg
  refine Wk.of_run fun a ha => ⟨.tuple #[], _, ?_, ⟨by simp, .inr ⟨g', _, rfl, rfl, hs.same, hlc, hcm, ?_, ?_⟩⟩, hs.ch.more (fun q _ hq => by rw [hq]), hs.size⟩
  · simp [execOp, resolve, invoke, builtin, ha.eval hx, Builtin.clear_, run_underlying ht, hzv, hZ, hst]
  · simp; omega
  · simp
theorem Wk.copyC {S : Nat → Prop} {t u e : TypeId} {by' r l c m mc : Nat} {A B : Option Addr} {xs ys : List CB} {x y : Operand} {off : Int} (ht : P.underlying t = some (.slice e)) (hi : Inf P e (.complex .f64 0 0) 1 by')
    (hx : ev k x = some (.slice (if c = off.toNat then A else A.map (·.add (off.toNat * 1))) (l - off.toNat) (c - off.toNat))) (hy : ev k y = some (.slice B m mc)) (hown : CR e w r A l c xs) (hsrc : SlR S w B m 1 (ys.map cxV)) (hoff : off.toNat + m ≤ l) (hl : l ≤ c) :
    Wk P n k w { dst := d, op := .call { callee := .builtin .copy, args := #[x, y], argTypes := #[t, u] }, type := ty, pos := pos, after := aft, guard := g } (fun v w' => v = .int .i64 m ∧ CR e w' r A l c (xs.take off.toNat ++ ys ++ xs.drop (off.toNat + m)) ∧ Ch (At r) w w' ∧ w'.heap.size = w.heap.size) := by
  have hxl := CR.len hown
  have hyl : ys.length = m := by have := hsrc.len; simpa using this
  obtain ⟨inf, h1, h2, h3, h4⟩ := hi
  have hsz : (P.info? e).map (·.size) = some 1 := by rw [h1]; simp [h3]
  generalize hoo : off.toNat = o at *
  by_cases hm : m = 0
  · subst hm
    obtain rfl : ys = [] := List.eq_nil_of_length_eq_zero hyl
    generalize (if c = o then A else A.map (·.add (o * 1))) = AA at hx
    refine Wk.of_run fun a ha => ⟨goInt 0, w, ?_, rfl, ?_, Ch.refl _ _, rfl⟩
    · have := run_copy_none (P := P) w t u ty e AA B (l - o) (c - o) 0 mc ht hsz (by simp)
      simp [execOp, resolve, invoke, builtin, ha.eval hx, ha.eval hy, this]
    · simpa using hown
  · obtain ⟨g', cur, rfl, rfl, hg, hlc, hcm, hcs, htk⟩ := Ow.open' hown (by omega)
    obtain ⟨ad, rfl⟩ := hsrc.ne (by omega)
    rw [if_neg (by omega)] at hx
    have hx' : ev k x = some (.slice (some ⟨g', o, none⟩) (l - o) (c - o)) := by rw [hx]; simp [Addr.add_lit]
    have hmin : (ys.map cxV).length = Nat.min m (l - o) := by rw [List.length_map, hyl]; exact (Nat.min_eq_left (by omega)).symm
    have hr := run_copy_row (P := P) w t u ty e g' o (l - o) (c - o) ad m mc cur e (ys.map cxV) ht hsz hg hmin (fun j v hj => hsrc.cells ad rfl j v hj) (by simp; omega) (fun v hv => by obtain ⟨z, _, rfl⟩ := List.mem_map.1 hv; rfl)
    have hs := Sts.of_row (w' := w.setRow g' (cur.toList.take o ++ ys.map cxV ++ cur.toList.drop (o + (ys.map cxV).length)).toArray) rfl hg
    refine Wk.of_run fun a ha => ⟨goInt (ys.map cxV).length, _, ?_, by simp [goInt, hyl], ⟨by simp; omega, .inr ⟨g', _, rfl, rfl, hs.same, hlc, hcm, ?_, ?_⟩⟩, hs.ch.more (fun q _ hq => by rw [hq]), hs.size⟩
    · simp [execOp, resolve, invoke, builtin, ha.eval hx', ha.eval hy, hr]
    · simp; omega
    · rw [Nat.mul_one] at htk ⊢
      have hc : cur.toList.length = c := by simp [hcs]
      have e1 : cur.toList.take o = (xs.map cxV).take o := by rw [← htk, List.take_take, Nat.min_eq_left (by omega)]
      have e2 : (cur.toList.drop (o + m)).take (l - (o + m)) = (xs.map cxV).drop (o + m) := by rw [← htk, List.drop_take]
      have hA : (cur.toList.take o).length = o := by simp [hcs]; omega
      have hB : (ys.map cxV).length = m := by rw [List.length_map, hyl]
      rw [hB, List.take_append, List.take_of_length_le (by rw [List.length_append, hA, hB]; omega), List.length_append, hA, hB, e2, e1]
      simp only [List.map_append, List.map_take, List.map_drop]
theorem Rn.indexArrL {t e : TypeId} {m sz b o o' : Nat} {x y : Operand} {q : IntKind} {i : Int} (ht : P.underlying t = some (.array m e)) (hz : ∀ w, (sizeOf e).run P w = .ok sz w) (hx : ev k x = some (.pointer (some ⟨b, o, none⟩))) (hy : ev k y = some (.int q i)) (h0 : 0 ≤ i) (h1 : i < m) (ho : o + i.toNat * sz = o') :
    Rn P n k w { dst := d, op := .indexAddr t x y, type := ty, pos := pos, after := aft, guard := g } (.pointer (some ⟨b, o', none⟩)) :=
  fun a ha => by subst ho; simp [execOp, ha.eval hx, ha.eval hy, Instr.indexAt, run_underlying ht, asIntOf, Instr.sureAddr, h0, h1, hz, Addr.add_lit]
theorem Rn.toArr {t e : TypeId} {N l c : Nat} {A : Option Addr} {x : Operand} (ht : P.underlying t = some (.array N e)) (hx : ev k x = some (.slice A l c)) (hl : N ≤ l) :
    Rn P n k w { dst := d, op := .sliceToArrayPointer t x, type := ty, pos := pos, after := aft, guard := g } (.pointer A) :=
  fun a ha => by
    have : ¬ l < N := by omega
    simp [execOp, ha.eval hx, Instr.arrayAt, run_underlying ht, this]
theorem Rn.sliceAll {t e : TypeId} {m sz : Nat} {x : Operand} {ad : Addr} (ht : P.underlying t = some (.array m e)) (hz : ∀ w, (sizeOf e).run P w = .ok sz w) (hx : ev k x = some (.pointer (some ad))) (hm : m ≠ 0) :
    Rn P n k w { dst := d, op := .slice t x none none none, type := ty, pos := pos, after := aft, guard := g } (.slice (some (ad.add 0)) m m) :=
  fun a ha => by simp [execOp, ha.eval hx, Instr.sliceAt, run_underlying ht, Instr.sureAddr, Instr.sliceBounds, hz, hm]
theorem Rn.sliceLH {t e : TypeId} {sz l c : Nat} {A : Option Addr} {x y z : Operand} {q q' : IntKind} {i j : Int} (ht : P.underlying t = some (.slice e)) (hz : ∀ w, (sizeOf e).run P w = .ok sz w) (hx : ev k x = some (.slice A l c)) (hy : ev k y = some (.int q i)) (hj : ev k z = some (.int q' j)) (h0 : 0 ≤ i) (h1 : i ≤ j) (h2 : j ≤ c) :
    Rn P n k w { dst := d, op := .slice t x (some y) (some z) none, type := ty, pos := pos, after := aft, guard := g } (.slice (if c = i.toNat then A else A.map (·.add (i.toNat * sz))) (j.toNat - i.toNat) (c - i.toNat)) :=
  fun a ha => by
    have h3 : 0 ≤ j := by omega
    have h4 : i ≤ (j.toNat : Int) := by omega
    simp [execOp, ha.eval hx, ha.eval hy, ha.eval hj, Instr.sliceAt, Instr.slice, run_underlying ht, Instr.sliceBounds, Instr.sliceBound, asIntOf, h0, h3, h4, h2, hz]
    intro h; omega
end
theorem SlR.sub {S : Nat → Prop} {w : World} {A : Option Addr} {l c : Nat} {cs : List Value} (h : SlR S w A l 1 cs) {i j : Nat} (h1 : i ≤ j) (h2 : j ≤ l) (hc : l ≤ c) : SlR S w (if c = i then A else A.map (·.add (i * 1))) (j - i) 1 ((cs.drop i).take (j - i)) := by
  have hl : cs.length = l := by have := h.len; omega
  refine ⟨by simp; omega, fun h0 => ?_, fun ad had => ?_, fun ad had => ?_⟩
  · obtain ⟨ad, rfl⟩ := h.ne (by omega)
    rw [if_neg (by omega)]; exact ⟨_, rfl⟩
  · intro q v hq
    have hq0 : q < j - i := by
      have := (List.getElem?_eq_some_iff.1 hq).1
      simp at this; omega
    rw [if_neg (by omega)] at had
    obtain ⟨ad', rfl⟩ := h.ne (by omega)
    injection had with had
    subst had
    rw [List.getElem?_take, if_pos hq0, List.getElem?_drop] at hq
    rw [Nat.mul_one, add_add]
    exact h.cells ad' rfl _ v hq
  · split at had
    · exact h.ok ad had
    · cases A with
      | none => cases had
      | some ad' =>
        injection had with had
        subst had
        have := h.ok ad' rfl
        unfold Addr.add
        split <;> exact this
theorem SlR.getC {S : Nat → Prop} {w : World} {A : Option Addr} {l : Nat} {xs : List CB} (h : SlR S w A l 1 (xs.map cxV)) {i : Int} (h0 : 0 ≤ i) (h1 : i < l) : w.cell? ((sAddr A).add (i.toNat * 1)) = some (.complex .f64 (xs.getD i.toNat (0, 0)).1 (xs.getD i.toNat (0, 0)).2) := SlR.get (f := cxV) h (0, 0) h0 h1
end Go.Tm
