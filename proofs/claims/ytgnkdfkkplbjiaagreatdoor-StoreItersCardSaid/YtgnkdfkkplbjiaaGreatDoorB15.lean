/- Lemmas of this claim, joined by program. Walks of functions: a program's bytes. Walks of functions: a program's bytes, put together. Walks of functions: a plan's bytes, a store's bytes. Walks of functions: a store's bytes. The plans of lengths 1 to 24 are in form: the kernel reckons them. Conditions: each lemma names its own. -/
import Derived.Test.YtgnkdfkkplbjiaaGreatDoorB14
import Derived.KernelRfl
set_option linter.all false
namespace Go.Tm
open Go.RowKit Go.Proofs
/-- Where a step's numbers lie that its operation has. -/
def fieldIx (op : Nat) : List Nat := [1] ++ (if kSrc op = true then [2] else []) ++ (if kJmp op = true then [3] else []) ++ [4] ++ (if 0 < kN op then [5] else []) ++ (if kK op = true then [6] else [])
abbrev ptrAt (p j : Nat) : Value := .pointer (some ⟨p, j, none⟩)
def Stp.val (s : Stp) : Nat → Int
  | 0 => s.op
  | 1 => s.dst
  | 2 => s.src
  | 3 => s.jump
  | 4 => s.count
  | 5 => s.n
  | _ => s.k
theorem fieldIx_lt {op j : Nat} (h : j ∈ fieldIx op) : 1 ≤ j ∧ j ≤ 6 := by
  unfold fieldIx at h
  simp only [List.mem_append] at h
  rcases h with ((((h | h) | h) | h) | h) | h
  · simp at h; omega
  · split at h <;> simp at h; omega
  · split at h <;> simp at h; omega
  · simp at h; omega
  · split at h <;> simp at h; omega
  · split at h <;> simp at h; omega
theorem Stp.cell_at (s : Stp) {j : Nat} (h : j ≤ 6) : s.cells[j]? = some (.int .i64 (s.val j)) := by
  match j, h with
  | 0, _ => rfl
  | 1, _ => rfl
  | 2, _ => rfl
  | 3, _ => rfl
  | 4, _ => rfl
  | 5, _ => rfl
  | 6, _ => rfl
def Bld.hd (b : Bld) : List Int := [b.ln, b.cl, b.i0, b.ou]
abbrev bldC (b : Bld) (A : Option Addr) (c : Nat) : Array Value := #[.int .i64 b.ln, .int .i64 b.cl, .int .i64 b.i0, .int .i64 b.ou, .slice A b.steps.length c]
theorem hd_cell (b : Bld) (A : Option Addr) (c : Nat) {j : Nat} {x : Int} (h : b.hd[j]? = some x) : (bldC b A c)[j]? = some (.int .i64 x) := by
  match j, h with
  | 0, h => obtain rfl := Option.some.inj h; rfl
  | 1, h => obtain rfl := Option.some.inj h; rfl
  | 2, h => obtain rfl := Option.some.inj h; rfl
  | 3, h => obtain rfl := Option.some.inj h; rfl
  | j + 4, h => simp [Bld.hd] at h
def encS (s : Stp) : List UInt8 := uintB s.op.toNat ++ (fieldIx s.op.toNat).flatMap fun j => uintB (s.val j).toNat
/-- A program's bytes. -/
def encB (b : Bld) : List UInt8 := b.hd.flatMap (fun x => uintB x.toNat) ++ uintB b.steps.length ++ b.steps.flatMap encS
def okNum (x : Int) : Bool := decide (0 ≤ x) && decide (x ≤ 262144)
structure okB (b : Bld) : Prop where
  len : b.steps.length ≤ 65536
  hd : ∀ x ∈ b.hd, 0 ≤ x ∧ x ≤ 262144
  st : ∀ s ∈ b.steps, formM s = true
theorem ptr_get {S : Nat → Prop} {w : World} {A : Option Addr} {l : Nat} {L : List Nat} {p i j : Nat} (h : SlR S w A l 1 (L.map (ptrAt p))) (hy : L[i]? = some j) : w.cell? ((sAddr A).add (i * 1)) = some (ptrAt p j) := by
  have hl := h.len
  have hi := (List.getElem?_eq_some_iff.1 hy).1
  refine h.one (by simp at hl; omega) ?_
  rw [List.getElem?_map, hy]; rfl
theorem fromM_bd {x lo hi : Int} (h : fromM true x lo hi = true) : lo ≤ x ∧ x ≤ hi := by
  simpa [fromM] using h
theorem form_bd {s : Stp} (h : formM s = true) : (1 ≤ s.op ∧ s.op ≤ 11) ∧ ∀ j ∈ fieldIx s.op.toNat, 0 ≤ s.val j ∧ s.val j ≤ 262144 := by
  unfold formM at h
  split at h
  · cases h
  rename_i h1
  have hop : 1 ≤ s.op ∧ s.op ≤ 11 := Classical.not_not.1 h1
  have h2 : (fromM true s.dst 0 262143 && fromM true s.count 1 262144 && fromM (kSrc s.op.toNat) s.src 0 262143 && fromM (kJmp s.op.toNat) s.jump 1 262144 && fromM (decide (kN s.op.toNat > 0)) s.n (if s.op = 5 then 2 else 1) (kN s.op.toNat) && fromM (kK s.op.toNat) s.k 0 (s.n - 1)) = true := by
    cases hq : (fromM true s.dst 0 262143 && fromM true s.count 1 262144 && fromM (kSrc s.op.toNat) s.src 0 262143 && fromM (kJmp s.op.toNat) s.jump 1 262144 && fromM (decide (kN s.op.toNat > 0)) s.n (if s.op = 5 then 2 else 1) (kN s.op.toNat) && fromM (kK s.op.toNat) s.k 0 (s.n - 1)) with
    | true => rfl
    | false =>
      simp only [hq, if_true] at h
      cases h
  simp only [Bool.and_eq_true] at h2
  obtain ⟨⟨⟨⟨⟨ha, hb⟩, hc⟩, hd⟩, he⟩, hf⟩ := h2
  have kn : ∀ i, kN i ≤ 16384 := by intro i; unfold kN; split <;> (try split) <;> (try split) <;> omega
  refine ⟨hop, fun j hj => ?_⟩
  unfold fieldIx at hj
  simp only [List.mem_append] at hj
  have h4 := fromM_bd ha
  have h5 := fromM_bd hb
  rcases hj with ((((hj | hj) | hj) | hj) | hj) | hj
  · obtain rfl : j = 1 := by simpa using hj
    show 0 ≤ s.dst ∧ s.dst ≤ 262144; omega
  · split at hj
    · rename_i hk
      obtain rfl : j = 2 := by simpa using hj
      rw [hk] at hc; have := fromM_bd hc
      show 0 ≤ s.src ∧ s.src ≤ 262144; omega
    · simp at hj
  · split at hj
    · rename_i hk
      obtain rfl : j = 3 := by simpa using hj
      rw [hk] at hd; have := fromM_bd hd
      show 0 ≤ s.jump ∧ s.jump ≤ 262144; omega
    · simp at hj
  · obtain rfl : j = 4 := by simpa using hj
    show 0 ≤ s.count ∧ s.count ≤ 262144; omega
  · split at hj
    · rename_i hk
      obtain rfl : j = 5 := by simpa using hj
      rw [decide_eq_true (by omega)] at he; have t1 := fromM_bd he; have t2 := kn s.op.toNat
      show 0 ≤ s.n ∧ s.n ≤ 262144
      have q : (1 : Int) ≤ (if s.op = 5 then 2 else 1) := by split <;> omega
      omega
    · simp at hj
  · split at hj
    · rename_i hk
      obtain rfl : j = 6 := by simpa using hj
      rw [hk] at hf; have := fromM_bd hf
      have hk4 : s.op.toNat = 4 := by simpa [kK] using hk
      rw [decide_eq_true (by rw [hk4]; decide)] at he; have := fromM_bd he; have := kn s.op.toNat
      show 0 ≤ s.k ∧ s.k ≤ 262144
      omega
    · simp at hj

set_option maxRecDepth 100000 in
theorem inf122w33 : Inf Tryz.prog 122 (.pointer none) 1 8 := ⟨Tryz.t122, Tryz.type122, rfl, rfl, rfl⟩
set_option maxHeartbeats 4000000 in
set_option maxRecDepth 100000 in
theorem steps_fields (p : Nat) (s : Stp) (ho : 1 ≤ s.op ∧ s.op ≤ 11) (w : World) (st : StT w) (bs : Bk w p s.cells.toArray 124) :
    Calls Tryz.prog 64 #[.pointer (some ⟨p, 0, none⟩)] w (Ret (fun v w' => ∃ r A c, v = .slice A (fieldIx s.op.toNat).length c ∧ Ow w' r 122 1 A (fieldIx s.op.toNat).length c ((fieldIx s.op.toNat).map (ptrAt p)) ∧ w.heap.size < r ∧ Ch No w w')) := by
  refine calls_of_VC (args := [.pointer (some ⟨p, 0, none⟩)]) Tryz.func64 rfl Tryz.ntmps64 rfl ?_
  refine VC.seq ?_
  refine VC.region ?_
  refine VO.mv (Rn.assign rfl) rfl rfl rfl ?_
  refine VO.nil ?_
  refine VQ.then_code ?_
  refine VC.seq ?_
  obtain ⟨nm, ht⟩ := st
  have ka := ht s.op.toNat (by omega)
  refine VC.region ?_
  refine VO.mv (Rn.move rfl) rfl rfl rfl ?_
  refine VO.mv (Rn.nilCheck rfl) rfl rfl rfl ?_
  refine VO.mv (Rn.field Tryz.underlying124 rfl Tryz.sizeOf3 rfl rfl rfl) rfl rfl rfl ?_
  refine VO.mv (Rn.load Tryz.isAgg3 rfl (bs.cell rfl)) rfl rfl rfl ?_
  refine VO.mv (Rn.indexArr Tryz.underlying150 Tryz.sizeOf149 rfl rfl (by omega) (by omega)) rfl rfl rfl ?_
  refine VO.mv (Rn.loads Tryz.isAgg149 Tryz.sizeOf149 rfl rfl ka.1) rfl rfl rfl ?_
  refine VO.wk (Wk.alloc Tryz.zeroValue149) rfl rfl rfl ?_
  rintro _ w1 ⟨p1, rfl, N1⟩
  have c1 := N1.ch
  have e1 := N1.p; have z1 := N1.size
  have b3 := Bk.new N1
  refine VO.wk0 (Wk.puts Tryz.sizeOf149 rfl rfl rfl rfl b3 (Nat.le_of_ble_eq_true rfl)) rfl rfl ?_
  intro _ w2 Z2
  have c2 := Z2.ch; have z2 := Z2.size
  have b3_2 := Bk.put Z2
  refine VO.nil ?_
  refine VQ.then_code ?_
  refine VC.seq ?_
  refine VC.region ?_
  refine VO.mv (Rn.move rfl) rfl rfl rfl ?_
  refine VO.mv (Rn.nilCheck rfl) rfl rfl rfl ?_
  refine VO.mv (Rn.field Tryz.underlying124 rfl Tryz.sizeOf3 rfl rfl rfl) rfl rfl rfl ?_
  refine VO.wk (Wk.lit Tryz.underlying119 inf122w33 (by decide) rfl rfl (by rfl) (by decide) (by decide) (by rfl)) rfl rfl rfl ?_
  rintro _ w3 ⟨p3, rfl, N3⟩
  have c3 := N3.ch
  have e3 := N3.p; have z3 := N3.size
  have l14 := SlR.of_new (sz := 1) (l := 1) N3 rfl
  have l14o := Ow.of_new (sz := 1) (l := 1) N3 rfl (by decide)
  refine VO.mv (Rn.assign rfl) rfl rfl rfl ?_
  refine VO.nil ?_
  refine VQ.then_code ?_
  refine VC.seq ?_
  refine VC.seq ?_
  refine VC.region ?_
  refine VO.mv (Rn.field Tryz.underlying149 rfl Tryz.sizeOf4 rfl rfl rfl) rfl rfl rfl ?_
  have b3_3 := b3_2.keep c3
  refine VO.mv (Rn.load Tryz.isAgg4 rfl (b3_3.cell rfl)) rfl rfl rfl ?_
  refine VO.nil ?_
  refine VQ.then_code ?_
  refine VC.cond rfl (fun hc1 => ?_) (fun hc1 => ?_)
  · skip
    try simp only [Bool.and_eq_true, Bool.or_eq_true, Bool.not_eq_true', Bool.not_eq_false', Bool.and_eq_false_iff, Bool.or_eq_false_iff, decide_eq_true_eq, decide_eq_false_iff_not] at hc1
    refine VC.region ?_
    refine VO.mv (Rn.move rfl) rfl rfl rfl ?_
    refine VO.mv (Rn.move rfl) rfl rfl rfl ?_
    refine VO.mv (Rn.nilCheck rfl) rfl rfl rfl ?_
    refine VO.mv (Rn.field Tryz.underlying124 rfl Tryz.sizeOf3 rfl rfl rfl) rfl rfl rfl ?_
    refine VO.wk (Wk.lit Tryz.underlying119 inf122w33 (by decide) rfl rfl (by rfl) (by decide) (by decide) (by rfl)) rfl rfl rfl ?_
    rintro _ w4 ⟨p4, rfl, N4⟩
    have c4 := N4.ch
    have e4 := N4.p; have z4 := N4.size
    have l21 := SlR.of_new (sz := 1) (l := 1) N4 rfl
    have l21o := Ow.of_new (sz := 1) (l := 1) N4 rfl (by decide)
    have l14o_4 := l14o.keep c4
    refine VO.wk (Wk.append (S := _) Tryz.underlying119 inf122w33 rfl (by decide) rfl rfl l14o_4 l21 (by rfl) (fun h => by simp at h) (by omega) (by simp only [maxLen]; omega)) rfl rfl rfl ?_
    rintro _ w5 ⟨r5, A5, k5, rfl, o5, c5, q5⟩
    have z5 := c5.size
    have y5 := o5.lt
    refine VO.mv (Rn.assign rfl) rfl rfl rfl ?_
    refine VO.nil ?_
    refine VQ.then_code ?_
    refine VC.seq ?_
    refine VC.seq ?_
    refine VC.region ?_
    refine VO.mv (Rn.field Tryz.underlying149 rfl Tryz.sizeOf4 rfl rfl rfl) rfl rfl rfl ?_
    have b3_4 := b3_3.keep c4
    have b3_5 := b3_4.to c5 (by first | exact id | omega)
    refine VO.mv (Rn.load Tryz.isAgg4 rfl (b3_5.cell rfl)) rfl rfl rfl ?_
    refine VO.nil ?_
    refine VQ.then_code ?_
    refine VC.cond rfl (fun hc2 => ?_) (fun hc2 => ?_)
    · skip
      try simp only [Bool.and_eq_true, Bool.or_eq_true, Bool.not_eq_true', Bool.not_eq_false', Bool.and_eq_false_iff, Bool.or_eq_false_iff, decide_eq_true_eq, decide_eq_false_iff_not] at hc2
      refine VC.region ?_
      refine VO.mv (Rn.move rfl) rfl rfl rfl ?_
      refine VO.mv (Rn.move rfl) rfl rfl rfl ?_
      refine VO.mv (Rn.nilCheck rfl) rfl rfl rfl ?_
      refine VO.mv (Rn.field Tryz.underlying124 rfl Tryz.sizeOf3 rfl rfl rfl) rfl rfl rfl ?_
      refine VO.wk (Wk.lit Tryz.underlying119 inf122w33 (by decide) rfl rfl (by rfl) (by decide) (by decide) (by rfl)) rfl rfl rfl ?_
      rintro _ w6 ⟨p6, rfl, N6⟩
      have c6 := N6.ch
      have e6 := N6.p; have z6 := N6.size
      have l29 := SlR.of_new (sz := 1) (l := 1) N6 rfl
      have l29o := Ow.of_new (sz := 1) (l := 1) N6 rfl (by decide)
      have row_6 := o5.keep c6
      refine VO.wk (Wk.append (S := _) Tryz.underlying119 inf122w33 rfl (by decide) rfl rfl row_6 l29 (by rfl) (fun h => by simp at h) (by omega) (by simp only [maxLen]; omega)) rfl rfl rfl ?_
      rintro _ w7 ⟨r7, A7, k7, rfl, o7, c7, q7⟩
      have z7 := c7.size
      have y7 := o7.lt
      refine VO.mv (Rn.assign rfl) rfl rfl rfl ?_
      refine VO.nil ?_
      refine VQ.then_code ?_
      refine VC.seq ?_
      refine VC.region ?_
      refine VO.mv (Rn.move rfl) rfl rfl rfl ?_
      refine VO.mv (Rn.move rfl) rfl rfl rfl ?_
      refine VO.mv (Rn.nilCheck rfl) rfl rfl rfl ?_
      refine VO.mv (Rn.field Tryz.underlying124 rfl Tryz.sizeOf3 rfl rfl rfl) rfl rfl rfl ?_
      refine VO.wk (Wk.lit Tryz.underlying119 inf122w33 (by decide) rfl rfl (by rfl) (by decide) (by decide) (by rfl)) rfl rfl rfl ?_
      rintro _ w8 ⟨p8, rfl, N8⟩
      have c8 := N8.ch
      have e8 := N8.p; have z8 := N8.size
      have l35 := SlR.of_new (sz := 1) (l := 1) N8 rfl
      have l35o := Ow.of_new (sz := 1) (l := 1) N8 rfl (by decide)
      have row_8 := o7.keep c8
      refine VO.wk (Wk.append (S := _) Tryz.underlying119 inf122w33 rfl (by decide) rfl rfl row_8 l35 (by rfl) (fun h => by simp at h) (by omega) (by simp only [maxLen]; omega)) rfl rfl rfl ?_
      rintro _ w9 ⟨r9, A9, k9, rfl, o9, c9, q9⟩
      have z9 := c9.size
      have y9 := o9.lt
      refine VO.mv (Rn.assign rfl) rfl rfl rfl ?_
      refine VO.nil ?_
      refine VQ.then_code ?_
      refine VC.seq ?_
      refine VC.seq ?_
      refine VC.region ?_
      refine VO.mv (Rn.field Tryz.underlying149 rfl Tryz.sizeOf3 rfl rfl rfl) rfl rfl rfl ?_
      have b3_6 := b3_5.keep c6
      have b3_7 := b3_6.to c7 (by first | exact id | omega)
      have b3_8 := b3_7.keep c8
      have b3_9 := b3_8.to c9 (by first | exact id | omega)
      refine VO.mv (Rn.load Tryz.isAgg3 rfl (b3_9.cell rfl)) rfl rfl rfl ?_
      refine VO.mv (Rn.gtr rfl rfl) rfl rfl rfl ?_
      refine VO.nil ?_
      refine VQ.then_code ?_
      refine VC.cond_if rfl (fun hc3 => ?_) (fun hc3 => ?_)
      · skip
        refine VC.region ?_
        refine VO.mv (Rn.move rfl) rfl rfl rfl ?_
        refine VO.mv (Rn.move rfl) rfl rfl rfl ?_
        refine VO.mv (Rn.nilCheck rfl) rfl rfl rfl ?_
        refine VO.mv (Rn.field Tryz.underlying124 rfl Tryz.sizeOf3 rfl rfl rfl) rfl rfl rfl ?_
        refine VO.wk (Wk.lit Tryz.underlying119 inf122w33 (by decide) rfl rfl (by rfl) (by decide) (by decide) (by rfl)) rfl rfl rfl ?_
        rintro _ w10 ⟨p10, rfl, N10⟩
        have c10 := N10.ch
        have e10 := N10.p; have z10 := N10.size
        have l44 := SlR.of_new (sz := 1) (l := 1) N10 rfl
        have l44o := Ow.of_new (sz := 1) (l := 1) N10 rfl (by decide)
        have row_10 := o9.keep c10
        refine VO.wk (Wk.append (S := _) Tryz.underlying119 inf122w33 rfl (by decide) rfl rfl row_10 l44 (by rfl) (fun h => by simp at h) (by omega) (by simp only [maxLen]; omega)) rfl rfl rfl ?_
        rintro _ w11 ⟨r11, A11, k11, rfl, o11, c11, q11⟩
        have z11 := c11.size
        have y11 := o11.lt
        refine VO.mv (Rn.assign rfl) rfl rfl rfl ?_
        refine VO.nil ?_
        refine VQ.then_code ?_
        refine VC.seq ?_
        refine VC.seq ?_
        refine VC.region ?_
        refine VO.mv (Rn.field Tryz.underlying149 rfl Tryz.sizeOf4 rfl rfl rfl) rfl rfl rfl ?_
        have b3_10 := b3_9.keep c10
        have b3_11 := b3_10.to c11 (by first | exact id | omega)
        refine VO.mv (Rn.load Tryz.isAgg4 rfl (b3_11.cell rfl)) rfl rfl rfl ?_
        refine VO.nil ?_
        refine VQ.then_code ?_
        refine VC.cond rfl (fun hc4 => ?_) (fun hc4 => ?_)
        · skip
          try simp only [Bool.and_eq_true, Bool.or_eq_true, Bool.not_eq_true', Bool.not_eq_false', Bool.and_eq_false_iff, Bool.or_eq_false_iff, decide_eq_true_eq, decide_eq_false_iff_not] at hc4
          refine VC.region ?_
          refine VO.mv (Rn.move rfl) rfl rfl rfl ?_
          refine VO.mv (Rn.move rfl) rfl rfl rfl ?_
          refine VO.mv (Rn.nilCheck rfl) rfl rfl rfl ?_
          refine VO.mv (Rn.field Tryz.underlying124 rfl Tryz.sizeOf3 rfl rfl rfl) rfl rfl rfl ?_
          refine VO.wk (Wk.lit Tryz.underlying119 inf122w33 (by decide) rfl rfl (by rfl) (by decide) (by decide) (by rfl)) rfl rfl rfl ?_
          rintro _ w12 ⟨p12, rfl, N12⟩
          have c12 := N12.ch
          have e12 := N12.p; have z12 := N12.size
          have l52 := SlR.of_new (sz := 1) (l := 1) N12 rfl
          have l52o := Ow.of_new (sz := 1) (l := 1) N12 rfl (by decide)
          have row_12 := o11.keep c12
          refine VO.wk (Wk.append (S := _) Tryz.underlying119 inf122w33 rfl (by decide) rfl rfl row_12 l52 (by rfl) (fun h => by simp at h) (by omega) (by simp only [maxLen]; omega)) rfl rfl rfl ?_
          rintro _ w13 ⟨r13, A13, k13, rfl, o13, c13, q13⟩
          have z13 := c13.size
          have y13 := o13.lt
          refine VO.mv (Rn.assign rfl) rfl rfl rfl ?_
          refine VO.nil ?_
          refine VQ.then_code ?_
          refine VC.seq ?_
          refine VC.region ?_
          refine VO.mv (Rn.move rfl) rfl rfl rfl ?_
          refine VO.mv (Rn.assign rfl) rfl rfl rfl ?_
          refine VO.nil ?_
          refine VQ.then_code ?_
          refine VC.ret ?_
          refine VQ.ret1 rfl rfl ?_
          refine Ret.mk ?_
          have hlen := o13.1
          have cc_0_4 : Ch No w w4 := (((Ch.then (E := No) c1 c2 (by intro q h1 h2; rcases h2 with h2 | h2 <;> first | exact h2 | (exfalso; omega))).and c3).and c4)
          have CH_4 := (Ch.refl (No) w).and cc_0_4
          have CH_5 : Ch (No) w w5 := CH_4.then c5 (by intro q h1 h2; rcases h2 with h2 | h2 <;> first | exact h2 | (exfalso; omega) | omega)
          have CH_6 := CH_5.and c6
          have CH_7 : Ch (No) w w7 := CH_6.then c7 (by intro q h1 h2; rcases h2 with h2 | h2 <;> first | exact h2 | (exfalso; omega) | omega)
          have CH_8 := CH_7.and c8
          have CH_9 : Ch (No) w w9 := CH_8.then c9 (by intro q h1 h2; rcases h2 with h2 | h2 <;> first | exact h2 | (exfalso; omega) | omega)
          have CH_10 := CH_9.and c10
          have CH_11 : Ch (No) w w11 := CH_10.then c11 (by intro q h1 h2; rcases h2 with h2 | h2 <;> first | exact h2 | (exfalso; omega) | omega)
          have CH_12 := CH_11.and c12
          have CH_13 : Ch (No) w w13 := CH_12.then c13 (by intro q h1 h2; rcases h2 with h2 | h2 <;> first | exact h2 | (exfalso; omega) | omega)
          exact ⟨r13, A13, k13, by simp [fieldIx, *], (o13).to' (by simp [fieldIx, *]) (by simp [fieldIx, flat, Value.cells, *]), by omega, CH_13⟩
        · skip
          try simp only [Bool.and_eq_true, Bool.or_eq_true, Bool.not_eq_true', Bool.not_eq_false', Bool.and_eq_false_iff, Bool.or_eq_false_iff, decide_eq_true_eq, decide_eq_false_iff_not] at hc4
          refine VC.skip ?_
          refine VQ.then_code ?_
          refine VC.seq ?_
          refine VC.region ?_
          refine VO.mv (Rn.move rfl) rfl rfl rfl ?_
          refine VO.mv (Rn.assign rfl) rfl rfl rfl ?_
          refine VO.nil ?_
          refine VQ.then_code ?_
          refine VC.ret ?_
          refine VQ.ret1 rfl rfl ?_
          refine Ret.mk ?_
          have hlen := o11.1
          have cc_0_4 : Ch No w w4 := (((Ch.then (E := No) c1 c2 (by intro q h1 h2; rcases h2 with h2 | h2 <;> first | exact h2 | (exfalso; omega))).and c3).and c4)
          have CH_4 := (Ch.refl (No) w).and cc_0_4
          have CH_5 : Ch (No) w w5 := CH_4.then c5 (by intro q h1 h2; rcases h2 with h2 | h2 <;> first | exact h2 | (exfalso; omega) | omega)
          have CH_6 := CH_5.and c6
          have CH_7 : Ch (No) w w7 := CH_6.then c7 (by intro q h1 h2; rcases h2 with h2 | h2 <;> first | exact h2 | (exfalso; omega) | omega)
          have CH_8 := CH_7.and c8
          have CH_9 : Ch (No) w w9 := CH_8.then c9 (by intro q h1 h2; rcases h2 with h2 | h2 <;> first | exact h2 | (exfalso; omega) | omega)
          have CH_10 := CH_9.and c10
          have CH_11 : Ch (No) w w11 := CH_10.then c11 (by intro q h1 h2; rcases h2 with h2 | h2 <;> first | exact h2 | (exfalso; omega) | omega)
          exact ⟨r11, A11, k11, by simp [fieldIx, *], (o11).to' (by simp [fieldIx, *]) (by simp [fieldIx, flat, Value.cells, *]), by omega, CH_11⟩
      · skip
        refine VC.skip ?_
        refine VQ.then_code ?_
        refine VC.seq ?_
        refine VC.seq ?_
        refine VC.region ?_
        refine VO.mv (Rn.field Tryz.underlying149 rfl Tryz.sizeOf4 rfl rfl rfl) rfl rfl rfl ?_
        refine VO.mv (Rn.load Tryz.isAgg4 rfl (b3_9.cell rfl)) rfl rfl rfl ?_
        refine VO.nil ?_
        refine VQ.then_code ?_
        refine VC.cond rfl (fun hc5 => ?_) (fun hc5 => ?_)
        · skip
          try simp only [Bool.and_eq_true, Bool.or_eq_true, Bool.not_eq_true', Bool.not_eq_false', Bool.and_eq_false_iff, Bool.or_eq_false_iff, decide_eq_true_eq, decide_eq_false_iff_not] at hc5
          refine VC.region ?_
          refine VO.mv (Rn.move rfl) rfl rfl rfl ?_
          refine VO.mv (Rn.move rfl) rfl rfl rfl ?_
          refine VO.mv (Rn.nilCheck rfl) rfl rfl rfl ?_
          refine VO.mv (Rn.field Tryz.underlying124 rfl Tryz.sizeOf3 rfl rfl rfl) rfl rfl rfl ?_
          refine VO.wk (Wk.lit Tryz.underlying119 inf122w33 (by decide) rfl rfl (by rfl) (by decide) (by decide) (by rfl)) rfl rfl rfl ?_
          rintro _ w14 ⟨p14, rfl, N14⟩
          have c14 := N14.ch
          have e14 := N14.p; have z14 := N14.size
          have l52 := SlR.of_new (sz := 1) (l := 1) N14 rfl
          have l52o := Ow.of_new (sz := 1) (l := 1) N14 rfl (by decide)
          have row_14 := o9.keep c14
          refine VO.wk (Wk.append (S := _) Tryz.underlying119 inf122w33 rfl (by decide) rfl rfl row_14 l52 (by rfl) (fun h => by simp at h) (by omega) (by simp only [maxLen]; omega)) rfl rfl rfl ?_
          rintro _ w15 ⟨r15, A15, k15, rfl, o15, c15, q15⟩
          have z15 := c15.size
          have y15 := o15.lt
          refine VO.mv (Rn.assign rfl) rfl rfl rfl ?_
          refine VO.nil ?_
          refine VQ.then_code ?_
          refine VC.seq ?_
          refine VC.region ?_
          refine VO.mv (Rn.move rfl) rfl rfl rfl ?_
          refine VO.mv (Rn.assign rfl) rfl rfl rfl ?_
          refine VO.nil ?_
          refine VQ.then_code ?_
          refine VC.ret ?_
          refine VQ.ret1 rfl rfl ?_
          refine Ret.mk ?_
          have hlen := o15.1
          have cc_0_4 : Ch No w w4 := (((Ch.then (E := No) c1 c2 (by intro q h1 h2; rcases h2 with h2 | h2 <;> first | exact h2 | (exfalso; omega))).and c3).and c4)
          have CH_4 := (Ch.refl (No) w).and cc_0_4
          have CH_5 : Ch (No) w w5 := CH_4.then c5 (by intro q h1 h2; rcases h2 with h2 | h2 <;> first | exact h2 | (exfalso; omega) | omega)
          have CH_6 := CH_5.and c6
          have CH_7 : Ch (No) w w7 := CH_6.then c7 (by intro q h1 h2; rcases h2 with h2 | h2 <;> first | exact h2 | (exfalso; omega) | omega)
          have CH_8 := CH_7.and c8
          have CH_9 : Ch (No) w w9 := CH_8.then c9 (by intro q h1 h2; rcases h2 with h2 | h2 <;> first | exact h2 | (exfalso; omega) | omega)
          have CH_14 := CH_9.and c14
          have CH_15 : Ch (No) w w15 := CH_14.then c15 (by intro q h1 h2; rcases h2 with h2 | h2 <;> first | exact h2 | (exfalso; omega) | omega)
          exact ⟨r15, A15, k15, by simp [fieldIx, *], (o15).to' (by simp [fieldIx, *]) (by simp [fieldIx, flat, Value.cells, *]), by omega, CH_15⟩
        · skip
          try simp only [Bool.and_eq_true, Bool.or_eq_true, Bool.not_eq_true', Bool.not_eq_false', Bool.and_eq_false_iff, Bool.or_eq_false_iff, decide_eq_true_eq, decide_eq_false_iff_not] at hc5
          refine VC.skip ?_
          refine VQ.then_code ?_
          refine VC.seq ?_
          refine VC.region ?_
          refine VO.mv (Rn.move rfl) rfl rfl rfl ?_
          refine VO.mv (Rn.assign rfl) rfl rfl rfl ?_
          refine VO.nil ?_
          refine VQ.then_code ?_
          refine VC.ret ?_
          refine VQ.ret1 rfl rfl ?_
          refine Ret.mk ?_
          have hlen := o9.1
          have cc_0_4 : Ch No w w4 := (((Ch.then (E := No) c1 c2 (by intro q h1 h2; rcases h2 with h2 | h2 <;> first | exact h2 | (exfalso; omega))).and c3).and c4)
          have CH_4 := (Ch.refl (No) w).and cc_0_4
          have CH_5 : Ch (No) w w5 := CH_4.then c5 (by intro q h1 h2; rcases h2 with h2 | h2 <;> first | exact h2 | (exfalso; omega) | omega)
          have CH_6 := CH_5.and c6
          have CH_7 : Ch (No) w w7 := CH_6.then c7 (by intro q h1 h2; rcases h2 with h2 | h2 <;> first | exact h2 | (exfalso; omega) | omega)
          have CH_8 := CH_7.and c8
          have CH_9 : Ch (No) w w9 := CH_8.then c9 (by intro q h1 h2; rcases h2 with h2 | h2 <;> first | exact h2 | (exfalso; omega) | omega)
          exact ⟨r9, A9, k9, by simp [fieldIx, *], (o9).to' (by simp [fieldIx, *]) (by simp [fieldIx, flat, Value.cells, *]), by omega, CH_9⟩
    · skip
      try simp only [Bool.and_eq_true, Bool.or_eq_true, Bool.not_eq_true', Bool.not_eq_false', Bool.and_eq_false_iff, Bool.or_eq_false_iff, decide_eq_true_eq, decide_eq_false_iff_not] at hc2
      refine VC.skip ?_
      refine VQ.then_code ?_
      refine VC.seq ?_
      refine VC.region ?_
      refine VO.mv (Rn.move rfl) rfl rfl rfl ?_
      refine VO.mv (Rn.move rfl) rfl rfl rfl ?_
      refine VO.mv (Rn.nilCheck rfl) rfl rfl rfl ?_
      refine VO.mv (Rn.field Tryz.underlying124 rfl Tryz.sizeOf3 rfl rfl rfl) rfl rfl rfl ?_
      refine VO.wk (Wk.lit Tryz.underlying119 inf122w33 (by decide) rfl rfl (by rfl) (by decide) (by decide) (by rfl)) rfl rfl rfl ?_
      rintro _ w16 ⟨p16, rfl, N16⟩
      have c16 := N16.ch
      have e16 := N16.p; have z16 := N16.size
      have l35 := SlR.of_new (sz := 1) (l := 1) N16 rfl
      have l35o := Ow.of_new (sz := 1) (l := 1) N16 rfl (by decide)
      have row_16 := o5.keep c16
      refine VO.wk (Wk.append (S := _) Tryz.underlying119 inf122w33 rfl (by decide) rfl rfl row_16 l35 (by rfl) (fun h => by simp at h) (by omega) (by simp only [maxLen]; omega)) rfl rfl rfl ?_
      rintro _ w17 ⟨r17, A17, k17, rfl, o17, c17, q17⟩
      have z17 := c17.size
      have y17 := o17.lt
      refine VO.mv (Rn.assign rfl) rfl rfl rfl ?_
      refine VO.nil ?_
      refine VQ.then_code ?_
      refine VC.seq ?_
      refine VC.seq ?_
      refine VC.region ?_
      refine VO.mv (Rn.field Tryz.underlying149 rfl Tryz.sizeOf3 rfl rfl rfl) rfl rfl rfl ?_
      have b3_16 := b3_5.keep c16
      have b3_17 := b3_16.to c17 (by first | exact id | omega)
      refine VO.mv (Rn.load Tryz.isAgg3 rfl (b3_17.cell rfl)) rfl rfl rfl ?_
      refine VO.mv (Rn.gtr rfl rfl) rfl rfl rfl ?_
      refine VO.nil ?_
      refine VQ.then_code ?_
      refine VC.cond_if rfl (fun hc6 => ?_) (fun hc6 => ?_)
      · skip
        refine VC.region ?_
        refine VO.mv (Rn.move rfl) rfl rfl rfl ?_
        refine VO.mv (Rn.move rfl) rfl rfl rfl ?_
        refine VO.mv (Rn.nilCheck rfl) rfl rfl rfl ?_
        refine VO.mv (Rn.field Tryz.underlying124 rfl Tryz.sizeOf3 rfl rfl rfl) rfl rfl rfl ?_
        refine VO.wk (Wk.lit Tryz.underlying119 inf122w33 (by decide) rfl rfl (by rfl) (by decide) (by decide) (by rfl)) rfl rfl rfl ?_
        rintro _ w18 ⟨p18, rfl, N18⟩
        have c18 := N18.ch
        have e18 := N18.p; have z18 := N18.size
        have l44 := SlR.of_new (sz := 1) (l := 1) N18 rfl
        have l44o := Ow.of_new (sz := 1) (l := 1) N18 rfl (by decide)
        have row_18 := o17.keep c18
        refine VO.wk (Wk.append (S := _) Tryz.underlying119 inf122w33 rfl (by decide) rfl rfl row_18 l44 (by rfl) (fun h => by simp at h) (by omega) (by simp only [maxLen]; omega)) rfl rfl rfl ?_
        rintro _ w19 ⟨r19, A19, k19, rfl, o19, c19, q19⟩
        have z19 := c19.size
        have y19 := o19.lt
        refine VO.mv (Rn.assign rfl) rfl rfl rfl ?_
        refine VO.nil ?_
        refine VQ.then_code ?_
        refine VC.seq ?_
        refine VC.seq ?_
        refine VC.region ?_
        refine VO.mv (Rn.field Tryz.underlying149 rfl Tryz.sizeOf4 rfl rfl rfl) rfl rfl rfl ?_
        have b3_18 := b3_17.keep c18
        have b3_19 := b3_18.to c19 (by first | exact id | omega)
        refine VO.mv (Rn.load Tryz.isAgg4 rfl (b3_19.cell rfl)) rfl rfl rfl ?_
        refine VO.nil ?_
        refine VQ.then_code ?_
        refine VC.cond rfl (fun hc7 => ?_) (fun hc7 => ?_)
        · skip
          try simp only [Bool.and_eq_true, Bool.or_eq_true, Bool.not_eq_true', Bool.not_eq_false', Bool.and_eq_false_iff, Bool.or_eq_false_iff, decide_eq_true_eq, decide_eq_false_iff_not] at hc7
          refine VC.region ?_
          refine VO.mv (Rn.move rfl) rfl rfl rfl ?_
          refine VO.mv (Rn.move rfl) rfl rfl rfl ?_
          refine VO.mv (Rn.nilCheck rfl) rfl rfl rfl ?_
          refine VO.mv (Rn.field Tryz.underlying124 rfl Tryz.sizeOf3 rfl rfl rfl) rfl rfl rfl ?_
          refine VO.wk (Wk.lit Tryz.underlying119 inf122w33 (by decide) rfl rfl (by rfl) (by decide) (by decide) (by rfl)) rfl rfl rfl ?_
          rintro _ w20 ⟨p20, rfl, N20⟩
          have c20 := N20.ch
          have e20 := N20.p; have z20 := N20.size
          have l52 := SlR.of_new (sz := 1) (l := 1) N20 rfl
          have l52o := Ow.of_new (sz := 1) (l := 1) N20 rfl (by decide)
          have row_20 := o19.keep c20
          refine VO.wk (Wk.append (S := _) Tryz.underlying119 inf122w33 rfl (by decide) rfl rfl row_20 l52 (by rfl) (fun h => by simp at h) (by omega) (by simp only [maxLen]; omega)) rfl rfl rfl ?_
          rintro _ w21 ⟨r21, A21, k21, rfl, o21, c21, q21⟩
          have z21 := c21.size
          have y21 := o21.lt
          refine VO.mv (Rn.assign rfl) rfl rfl rfl ?_
          refine VO.nil ?_
          refine VQ.then_code ?_
          refine VC.seq ?_
          refine VC.region ?_
          refine VO.mv (Rn.move rfl) rfl rfl rfl ?_
          refine VO.mv (Rn.assign rfl) rfl rfl rfl ?_
          refine VO.nil ?_
          refine VQ.then_code ?_
          refine VC.ret ?_
          refine VQ.ret1 rfl rfl ?_
          refine Ret.mk ?_
          have hlen := o21.1
          have cc_0_4 : Ch No w w4 := (((Ch.then (E := No) c1 c2 (by intro q h1 h2; rcases h2 with h2 | h2 <;> first | exact h2 | (exfalso; omega))).and c3).and c4)
          have CH_4 := (Ch.refl (No) w).and cc_0_4
          have CH_5 : Ch (No) w w5 := CH_4.then c5 (by intro q h1 h2; rcases h2 with h2 | h2 <;> first | exact h2 | (exfalso; omega) | omega)
          have CH_16 := CH_5.and c16
          have CH_17 : Ch (No) w w17 := CH_16.then c17 (by intro q h1 h2; rcases h2 with h2 | h2 <;> first | exact h2 | (exfalso; omega) | omega)
          have CH_18 := CH_17.and c18
          have CH_19 : Ch (No) w w19 := CH_18.then c19 (by intro q h1 h2; rcases h2 with h2 | h2 <;> first | exact h2 | (exfalso; omega) | omega)
          have CH_20 := CH_19.and c20
          have CH_21 : Ch (No) w w21 := CH_20.then c21 (by intro q h1 h2; rcases h2 with h2 | h2 <;> first | exact h2 | (exfalso; omega) | omega)
          exact ⟨r21, A21, k21, by simp [fieldIx, *], (o21).to' (by simp [fieldIx, *]) (by simp [fieldIx, flat, Value.cells, *]), by omega, CH_21⟩
        · skip
          try simp only [Bool.and_eq_true, Bool.or_eq_true, Bool.not_eq_true', Bool.not_eq_false', Bool.and_eq_false_iff, Bool.or_eq_false_iff, decide_eq_true_eq, decide_eq_false_iff_not] at hc7
          refine VC.skip ?_
          refine VQ.then_code ?_
          refine VC.seq ?_
          refine VC.region ?_
          refine VO.mv (Rn.move rfl) rfl rfl rfl ?_
          refine VO.mv (Rn.assign rfl) rfl rfl rfl ?_
          refine VO.nil ?_
          refine VQ.then_code ?_
          refine VC.ret ?_
          refine VQ.ret1 rfl rfl ?_
          refine Ret.mk ?_
          have hlen := o19.1
          have cc_0_4 : Ch No w w4 := (((Ch.then (E := No) c1 c2 (by intro q h1 h2; rcases h2 with h2 | h2 <;> first | exact h2 | (exfalso; omega))).and c3).and c4)
          have CH_4 := (Ch.refl (No) w).and cc_0_4
          have CH_5 : Ch (No) w w5 := CH_4.then c5 (by intro q h1 h2; rcases h2 with h2 | h2 <;> first | exact h2 | (exfalso; omega) | omega)
          have CH_16 := CH_5.and c16
          have CH_17 : Ch (No) w w17 := CH_16.then c17 (by intro q h1 h2; rcases h2 with h2 | h2 <;> first | exact h2 | (exfalso; omega) | omega)
          have CH_18 := CH_17.and c18
          have CH_19 : Ch (No) w w19 := CH_18.then c19 (by intro q h1 h2; rcases h2 with h2 | h2 <;> first | exact h2 | (exfalso; omega) | omega)
          exact ⟨r19, A19, k19, by simp [fieldIx, *], (o19).to' (by simp [fieldIx, *]) (by simp [fieldIx, flat, Value.cells, *]), by omega, CH_19⟩
      · skip
        refine VC.skip ?_
        refine VQ.then_code ?_
        refine VC.seq ?_
        refine VC.seq ?_
        refine VC.region ?_
        refine VO.mv (Rn.field Tryz.underlying149 rfl Tryz.sizeOf4 rfl rfl rfl) rfl rfl rfl ?_
        refine VO.mv (Rn.load Tryz.isAgg4 rfl (b3_17.cell rfl)) rfl rfl rfl ?_
        refine VO.nil ?_
        refine VQ.then_code ?_
        refine VC.cond rfl (fun hc8 => ?_) (fun hc8 => ?_)
        · skip
          try simp only [Bool.and_eq_true, Bool.or_eq_true, Bool.not_eq_true', Bool.not_eq_false', Bool.and_eq_false_iff, Bool.or_eq_false_iff, decide_eq_true_eq, decide_eq_false_iff_not] at hc8
          refine VC.region ?_
          refine VO.mv (Rn.move rfl) rfl rfl rfl ?_
          refine VO.mv (Rn.move rfl) rfl rfl rfl ?_
          refine VO.mv (Rn.nilCheck rfl) rfl rfl rfl ?_
          refine VO.mv (Rn.field Tryz.underlying124 rfl Tryz.sizeOf3 rfl rfl rfl) rfl rfl rfl ?_
          refine VO.wk (Wk.lit Tryz.underlying119 inf122w33 (by decide) rfl rfl (by rfl) (by decide) (by decide) (by rfl)) rfl rfl rfl ?_
          rintro _ w22 ⟨p22, rfl, N22⟩
          have c22 := N22.ch
          have e22 := N22.p; have z22 := N22.size
          have l52 := SlR.of_new (sz := 1) (l := 1) N22 rfl
          have l52o := Ow.of_new (sz := 1) (l := 1) N22 rfl (by decide)
          have row_22 := o17.keep c22
          refine VO.wk (Wk.append (S := _) Tryz.underlying119 inf122w33 rfl (by decide) rfl rfl row_22 l52 (by rfl) (fun h => by simp at h) (by omega) (by simp only [maxLen]; omega)) rfl rfl rfl ?_
          rintro _ w23 ⟨r23, A23, k23, rfl, o23, c23, q23⟩
          have z23 := c23.size
          have y23 := o23.lt
          refine VO.mv (Rn.assign rfl) rfl rfl rfl ?_
          refine VO.nil ?_
          refine VQ.then_code ?_
          refine VC.seq ?_
          refine VC.region ?_
          refine VO.mv (Rn.move rfl) rfl rfl rfl ?_
          refine VO.mv (Rn.assign rfl) rfl rfl rfl ?_
          refine VO.nil ?_
          refine VQ.then_code ?_
          refine VC.ret ?_
          refine VQ.ret1 rfl rfl ?_
          refine Ret.mk ?_
          have hlen := o23.1
          have cc_0_4 : Ch No w w4 := (((Ch.then (E := No) c1 c2 (by intro q h1 h2; rcases h2 with h2 | h2 <;> first | exact h2 | (exfalso; omega))).and c3).and c4)
          have CH_4 := (Ch.refl (No) w).and cc_0_4
          have CH_5 : Ch (No) w w5 := CH_4.then c5 (by intro q h1 h2; rcases h2 with h2 | h2 <;> first | exact h2 | (exfalso; omega) | omega)
          have CH_16 := CH_5.and c16
          have CH_17 : Ch (No) w w17 := CH_16.then c17 (by intro q h1 h2; rcases h2 with h2 | h2 <;> first | exact h2 | (exfalso; omega) | omega)
          have CH_22 := CH_17.and c22
          have CH_23 : Ch (No) w w23 := CH_22.then c23 (by intro q h1 h2; rcases h2 with h2 | h2 <;> first | exact h2 | (exfalso; omega) | omega)
          exact ⟨r23, A23, k23, by simp [fieldIx, *], (o23).to' (by simp [fieldIx, *]) (by simp [fieldIx, flat, Value.cells, *]), by omega, CH_23⟩
        · skip
          try simp only [Bool.and_eq_true, Bool.or_eq_true, Bool.not_eq_true', Bool.not_eq_false', Bool.and_eq_false_iff, Bool.or_eq_false_iff, decide_eq_true_eq, decide_eq_false_iff_not] at hc8
          refine VC.skip ?_
          refine VQ.then_code ?_
          refine VC.seq ?_
          refine VC.region ?_
          refine VO.mv (Rn.move rfl) rfl rfl rfl ?_
          refine VO.mv (Rn.assign rfl) rfl rfl rfl ?_
          refine VO.nil ?_
          refine VQ.then_code ?_
          refine VC.ret ?_
          refine VQ.ret1 rfl rfl ?_
          refine Ret.mk ?_
          have hlen := o17.1
          have cc_0_4 : Ch No w w4 := (((Ch.then (E := No) c1 c2 (by intro q h1 h2; rcases h2 with h2 | h2 <;> first | exact h2 | (exfalso; omega))).and c3).and c4)
          have CH_4 := (Ch.refl (No) w).and cc_0_4
          have CH_5 : Ch (No) w w5 := CH_4.then c5 (by intro q h1 h2; rcases h2 with h2 | h2 <;> first | exact h2 | (exfalso; omega) | omega)
          have CH_16 := CH_5.and c16
          have CH_17 : Ch (No) w w17 := CH_16.then c17 (by intro q h1 h2; rcases h2 with h2 | h2 <;> first | exact h2 | (exfalso; omega) | omega)
          exact ⟨r17, A17, k17, by simp [fieldIx, *], (o17).to' (by simp [fieldIx, *]) (by simp [fieldIx, flat, Value.cells, *]), by omega, CH_17⟩
  · skip
    try simp only [Bool.and_eq_true, Bool.or_eq_true, Bool.not_eq_true', Bool.not_eq_false', Bool.and_eq_false_iff, Bool.or_eq_false_iff, decide_eq_true_eq, decide_eq_false_iff_not] at hc1
    refine VC.skip ?_
    refine VQ.then_code ?_
    refine VC.seq ?_
    refine VC.seq ?_
    refine VC.region ?_
    refine VO.mv (Rn.field Tryz.underlying149 rfl Tryz.sizeOf4 rfl rfl rfl) rfl rfl rfl ?_
    refine VO.mv (Rn.load Tryz.isAgg4 rfl (b3_3.cell rfl)) rfl rfl rfl ?_
    refine VO.nil ?_
    refine VQ.then_code ?_
    refine VC.cond rfl (fun hc9 => ?_) (fun hc9 => ?_)
    · skip
      try simp only [Bool.and_eq_true, Bool.or_eq_true, Bool.not_eq_true', Bool.not_eq_false', Bool.and_eq_false_iff, Bool.or_eq_false_iff, decide_eq_true_eq, decide_eq_false_iff_not] at hc9
      refine VC.region ?_
      refine VO.mv (Rn.move rfl) rfl rfl rfl ?_
      refine VO.mv (Rn.move rfl) rfl rfl rfl ?_
      refine VO.mv (Rn.nilCheck rfl) rfl rfl rfl ?_
      refine VO.mv (Rn.field Tryz.underlying124 rfl Tryz.sizeOf3 rfl rfl rfl) rfl rfl rfl ?_
      refine VO.wk (Wk.lit Tryz.underlying119 inf122w33 (by decide) rfl rfl (by rfl) (by decide) (by decide) (by rfl)) rfl rfl rfl ?_
      rintro _ w24 ⟨p24, rfl, N24⟩
      have c24 := N24.ch
      have e24 := N24.p; have z24 := N24.size
      have l29 := SlR.of_new (sz := 1) (l := 1) N24 rfl
      have l29o := Ow.of_new (sz := 1) (l := 1) N24 rfl (by decide)
      have l14o_24 := l14o.keep c24
      refine VO.wk (Wk.append (S := _) Tryz.underlying119 inf122w33 rfl (by decide) rfl rfl l14o_24 l29 (by rfl) (fun h => by simp at h) (by omega) (by simp only [maxLen]; omega)) rfl rfl rfl ?_
      rintro _ w25 ⟨r25, A25, k25, rfl, o25, c25, q25⟩
      have z25 := c25.size
      have y25 := o25.lt
      refine VO.mv (Rn.assign rfl) rfl rfl rfl ?_
      refine VO.nil ?_
      refine VQ.then_code ?_
      refine VC.seq ?_
      refine VC.region ?_
      refine VO.mv (Rn.move rfl) rfl rfl rfl ?_
      refine VO.mv (Rn.move rfl) rfl rfl rfl ?_
      refine VO.mv (Rn.nilCheck rfl) rfl rfl rfl ?_
      refine VO.mv (Rn.field Tryz.underlying124 rfl Tryz.sizeOf3 rfl rfl rfl) rfl rfl rfl ?_
      refine VO.wk (Wk.lit Tryz.underlying119 inf122w33 (by decide) rfl rfl (by rfl) (by decide) (by decide) (by rfl)) rfl rfl rfl ?_
      rintro _ w26 ⟨p26, rfl, N26⟩
      have c26 := N26.ch
      have e26 := N26.p; have z26 := N26.size
      have l35 := SlR.of_new (sz := 1) (l := 1) N26 rfl
      have l35o := Ow.of_new (sz := 1) (l := 1) N26 rfl (by decide)
      have row_26 := o25.keep c26
      refine VO.wk (Wk.append (S := _) Tryz.underlying119 inf122w33 rfl (by decide) rfl rfl row_26 l35 (by rfl) (fun h => by simp at h) (by omega) (by simp only [maxLen]; omega)) rfl rfl rfl ?_
      rintro _ w27 ⟨r27, A27, k27, rfl, o27, c27, q27⟩
      have z27 := c27.size
      have y27 := o27.lt
      refine VO.mv (Rn.assign rfl) rfl rfl rfl ?_
      refine VO.nil ?_
      refine VQ.then_code ?_
      refine VC.seq ?_
      refine VC.seq ?_
      refine VC.region ?_
      refine VO.mv (Rn.field Tryz.underlying149 rfl Tryz.sizeOf3 rfl rfl rfl) rfl rfl rfl ?_
      have b3_24 := b3_3.keep c24
      have b3_25 := b3_24.to c25 (by first | exact id | omega)
      have b3_26 := b3_25.keep c26
      have b3_27 := b3_26.to c27 (by first | exact id | omega)
      refine VO.mv (Rn.load Tryz.isAgg3 rfl (b3_27.cell rfl)) rfl rfl rfl ?_
      refine VO.mv (Rn.gtr rfl rfl) rfl rfl rfl ?_
      refine VO.nil ?_
      refine VQ.then_code ?_
      refine VC.cond_if rfl (fun hc10 => ?_) (fun hc10 => ?_)
      · skip
        refine VC.region ?_
        refine VO.mv (Rn.move rfl) rfl rfl rfl ?_
        refine VO.mv (Rn.move rfl) rfl rfl rfl ?_
        refine VO.mv (Rn.nilCheck rfl) rfl rfl rfl ?_
        refine VO.mv (Rn.field Tryz.underlying124 rfl Tryz.sizeOf3 rfl rfl rfl) rfl rfl rfl ?_
        refine VO.wk (Wk.lit Tryz.underlying119 inf122w33 (by decide) rfl rfl (by rfl) (by decide) (by decide) (by rfl)) rfl rfl rfl ?_
        rintro _ w28 ⟨p28, rfl, N28⟩
        have c28 := N28.ch
        have e28 := N28.p; have z28 := N28.size
        have l44 := SlR.of_new (sz := 1) (l := 1) N28 rfl
        have l44o := Ow.of_new (sz := 1) (l := 1) N28 rfl (by decide)
        have row_28 := o27.keep c28
        refine VO.wk (Wk.append (S := _) Tryz.underlying119 inf122w33 rfl (by decide) rfl rfl row_28 l44 (by rfl) (fun h => by simp at h) (by omega) (by simp only [maxLen]; omega)) rfl rfl rfl ?_
        rintro _ w29 ⟨r29, A29, k29, rfl, o29, c29, q29⟩
        have z29 := c29.size
        have y29 := o29.lt
        refine VO.mv (Rn.assign rfl) rfl rfl rfl ?_
        refine VO.nil ?_
        refine VQ.then_code ?_
        refine VC.seq ?_
        refine VC.seq ?_
        refine VC.region ?_
        refine VO.mv (Rn.field Tryz.underlying149 rfl Tryz.sizeOf4 rfl rfl rfl) rfl rfl rfl ?_
        have b3_28 := b3_27.keep c28
        have b3_29 := b3_28.to c29 (by first | exact id | omega)
        refine VO.mv (Rn.load Tryz.isAgg4 rfl (b3_29.cell rfl)) rfl rfl rfl ?_
        refine VO.nil ?_
        refine VQ.then_code ?_
        refine VC.cond rfl (fun hc11 => ?_) (fun hc11 => ?_)
        · skip
          try simp only [Bool.and_eq_true, Bool.or_eq_true, Bool.not_eq_true', Bool.not_eq_false', Bool.and_eq_false_iff, Bool.or_eq_false_iff, decide_eq_true_eq, decide_eq_false_iff_not] at hc11
          refine VC.region ?_
          refine VO.mv (Rn.move rfl) rfl rfl rfl ?_
          refine VO.mv (Rn.move rfl) rfl rfl rfl ?_
          refine VO.mv (Rn.nilCheck rfl) rfl rfl rfl ?_
          refine VO.mv (Rn.field Tryz.underlying124 rfl Tryz.sizeOf3 rfl rfl rfl) rfl rfl rfl ?_
          refine VO.wk (Wk.lit Tryz.underlying119 inf122w33 (by decide) rfl rfl (by rfl) (by decide) (by decide) (by rfl)) rfl rfl rfl ?_
          rintro _ w30 ⟨p30, rfl, N30⟩
          have c30 := N30.ch
          have e30 := N30.p; have z30 := N30.size
          have l52 := SlR.of_new (sz := 1) (l := 1) N30 rfl
          have l52o := Ow.of_new (sz := 1) (l := 1) N30 rfl (by decide)
          have row_30 := o29.keep c30
          refine VO.wk (Wk.append (S := _) Tryz.underlying119 inf122w33 rfl (by decide) rfl rfl row_30 l52 (by rfl) (fun h => by simp at h) (by omega) (by simp only [maxLen]; omega)) rfl rfl rfl ?_
          rintro _ w31 ⟨r31, A31, k31, rfl, o31, c31, q31⟩
          have z31 := c31.size
          have y31 := o31.lt
          refine VO.mv (Rn.assign rfl) rfl rfl rfl ?_
          refine VO.nil ?_
          refine VQ.then_code ?_
          refine VC.seq ?_
          refine VC.region ?_
          refine VO.mv (Rn.move rfl) rfl rfl rfl ?_
          refine VO.mv (Rn.assign rfl) rfl rfl rfl ?_
          refine VO.nil ?_
          refine VQ.then_code ?_
          refine VC.ret ?_
          refine VQ.ret1 rfl rfl ?_
          refine Ret.mk ?_
          have hlen := o31.1
          have cc_0_24 : Ch No w w24 := (((Ch.then (E := No) c1 c2 (by intro q h1 h2; rcases h2 with h2 | h2 <;> first | exact h2 | (exfalso; omega))).and c3).and c24)
          have CH_24 := (Ch.refl (No) w).and cc_0_24
          have CH_25 : Ch (No) w w25 := CH_24.then c25 (by intro q h1 h2; rcases h2 with h2 | h2 <;> first | exact h2 | (exfalso; omega) | omega)
          have CH_26 := CH_25.and c26
          have CH_27 : Ch (No) w w27 := CH_26.then c27 (by intro q h1 h2; rcases h2 with h2 | h2 <;> first | exact h2 | (exfalso; omega) | omega)
          have CH_28 := CH_27.and c28
          have CH_29 : Ch (No) w w29 := CH_28.then c29 (by intro q h1 h2; rcases h2 with h2 | h2 <;> first | exact h2 | (exfalso; omega) | omega)
          have CH_30 := CH_29.and c30
          have CH_31 : Ch (No) w w31 := CH_30.then c31 (by intro q h1 h2; rcases h2 with h2 | h2 <;> first | exact h2 | (exfalso; omega) | omega)
          exact ⟨r31, A31, k31, by simp [fieldIx, *], (o31).to' (by simp [fieldIx, *]) (by simp [fieldIx, flat, Value.cells, *]), by omega, CH_31⟩
        · skip
          try simp only [Bool.and_eq_true, Bool.or_eq_true, Bool.not_eq_true', Bool.not_eq_false', Bool.and_eq_false_iff, Bool.or_eq_false_iff, decide_eq_true_eq, decide_eq_false_iff_not] at hc11
          refine VC.skip ?_
          refine VQ.then_code ?_
          refine VC.seq ?_
          refine VC.region ?_
          refine VO.mv (Rn.move rfl) rfl rfl rfl ?_
          refine VO.mv (Rn.assign rfl) rfl rfl rfl ?_
          refine VO.nil ?_
          refine VQ.then_code ?_
          refine VC.ret ?_
          refine VQ.ret1 rfl rfl ?_
          refine Ret.mk ?_
          have hlen := o29.1
          have cc_0_24 : Ch No w w24 := (((Ch.then (E := No) c1 c2 (by intro q h1 h2; rcases h2 with h2 | h2 <;> first | exact h2 | (exfalso; omega))).and c3).and c24)
          have CH_24 := (Ch.refl (No) w).and cc_0_24
          have CH_25 : Ch (No) w w25 := CH_24.then c25 (by intro q h1 h2; rcases h2 with h2 | h2 <;> first | exact h2 | (exfalso; omega) | omega)
          have CH_26 := CH_25.and c26
          have CH_27 : Ch (No) w w27 := CH_26.then c27 (by intro q h1 h2; rcases h2 with h2 | h2 <;> first | exact h2 | (exfalso; omega) | omega)
          have CH_28 := CH_27.and c28
          have CH_29 : Ch (No) w w29 := CH_28.then c29 (by intro q h1 h2; rcases h2 with h2 | h2 <;> first | exact h2 | (exfalso; omega) | omega)
          exact ⟨r29, A29, k29, by simp [fieldIx, *], (o29).to' (by simp [fieldIx, *]) (by simp [fieldIx, flat, Value.cells, *]), by omega, CH_29⟩
      · skip
        refine VC.skip ?_
        refine VQ.then_code ?_
        refine VC.seq ?_
        refine VC.seq ?_
        refine VC.region ?_
        refine VO.mv (Rn.field Tryz.underlying149 rfl Tryz.sizeOf4 rfl rfl rfl) rfl rfl rfl ?_
        refine VO.mv (Rn.load Tryz.isAgg4 rfl (b3_27.cell rfl)) rfl rfl rfl ?_
        refine VO.nil ?_
        refine VQ.then_code ?_
        refine VC.cond rfl (fun hc12 => ?_) (fun hc12 => ?_)
        · skip
          try simp only [Bool.and_eq_true, Bool.or_eq_true, Bool.not_eq_true', Bool.not_eq_false', Bool.and_eq_false_iff, Bool.or_eq_false_iff, decide_eq_true_eq, decide_eq_false_iff_not] at hc12
          refine VC.region ?_
          refine VO.mv (Rn.move rfl) rfl rfl rfl ?_
          refine VO.mv (Rn.move rfl) rfl rfl rfl ?_
          refine VO.mv (Rn.nilCheck rfl) rfl rfl rfl ?_
          refine VO.mv (Rn.field Tryz.underlying124 rfl Tryz.sizeOf3 rfl rfl rfl) rfl rfl rfl ?_
          refine VO.wk (Wk.lit Tryz.underlying119 inf122w33 (by decide) rfl rfl (by rfl) (by decide) (by decide) (by rfl)) rfl rfl rfl ?_
          rintro _ w32 ⟨p32, rfl, N32⟩
          have c32 := N32.ch
          have e32 := N32.p; have z32 := N32.size
          have l52 := SlR.of_new (sz := 1) (l := 1) N32 rfl
          have l52o := Ow.of_new (sz := 1) (l := 1) N32 rfl (by decide)
          have row_32 := o27.keep c32
          refine VO.wk (Wk.append (S := _) Tryz.underlying119 inf122w33 rfl (by decide) rfl rfl row_32 l52 (by rfl) (fun h => by simp at h) (by omega) (by simp only [maxLen]; omega)) rfl rfl rfl ?_
          rintro _ w33 ⟨r33, A33, k33, rfl, o33, c33, q33⟩
          have z33 := c33.size
          have y33 := o33.lt
          refine VO.mv (Rn.assign rfl) rfl rfl rfl ?_
          refine VO.nil ?_
          refine VQ.then_code ?_
          refine VC.seq ?_
          refine VC.region ?_
          refine VO.mv (Rn.move rfl) rfl rfl rfl ?_
          refine VO.mv (Rn.assign rfl) rfl rfl rfl ?_
          refine VO.nil ?_
          refine VQ.then_code ?_
          refine VC.ret ?_
          refine VQ.ret1 rfl rfl ?_
          refine Ret.mk ?_
          have hlen := o33.1
          have cc_0_24 : Ch No w w24 := (((Ch.then (E := No) c1 c2 (by intro q h1 h2; rcases h2 with h2 | h2 <;> first | exact h2 | (exfalso; omega))).and c3).and c24)
          have CH_24 := (Ch.refl (No) w).and cc_0_24
          have CH_25 : Ch (No) w w25 := CH_24.then c25 (by intro q h1 h2; rcases h2 with h2 | h2 <;> first | exact h2 | (exfalso; omega) | omega)
          have CH_26 := CH_25.and c26
          have CH_27 : Ch (No) w w27 := CH_26.then c27 (by intro q h1 h2; rcases h2 with h2 | h2 <;> first | exact h2 | (exfalso; omega) | omega)
          have CH_32 := CH_27.and c32
          have CH_33 : Ch (No) w w33 := CH_32.then c33 (by intro q h1 h2; rcases h2 with h2 | h2 <;> first | exact h2 | (exfalso; omega) | omega)
          exact ⟨r33, A33, k33, by simp [fieldIx, *], (o33).to' (by simp [fieldIx, *]) (by simp [fieldIx, flat, Value.cells, *]), by omega, CH_33⟩
        · skip
          try simp only [Bool.and_eq_true, Bool.or_eq_true, Bool.not_eq_true', Bool.not_eq_false', Bool.and_eq_false_iff, Bool.or_eq_false_iff, decide_eq_true_eq, decide_eq_false_iff_not] at hc12
          refine VC.skip ?_
          refine VQ.then_code ?_
          refine VC.seq ?_
          refine VC.region ?_
          refine VO.mv (Rn.move rfl) rfl rfl rfl ?_
          refine VO.mv (Rn.assign rfl) rfl rfl rfl ?_
          refine VO.nil ?_
          refine VQ.then_code ?_
          refine VC.ret ?_
          refine VQ.ret1 rfl rfl ?_
          refine Ret.mk ?_
          have hlen := o27.1
          have cc_0_24 : Ch No w w24 := (((Ch.then (E := No) c1 c2 (by intro q h1 h2; rcases h2 with h2 | h2 <;> first | exact h2 | (exfalso; omega))).and c3).and c24)
          have CH_24 := (Ch.refl (No) w).and cc_0_24
          have CH_25 : Ch (No) w w25 := CH_24.then c25 (by intro q h1 h2; rcases h2 with h2 | h2 <;> first | exact h2 | (exfalso; omega) | omega)
          have CH_26 := CH_25.and c26
          have CH_27 : Ch (No) w w27 := CH_26.then c27 (by intro q h1 h2; rcases h2 with h2 | h2 <;> first | exact h2 | (exfalso; omega) | omega)
          exact ⟨r27, A27, k27, by simp [fieldIx, *], (o27).to' (by simp [fieldIx, *]) (by simp [fieldIx, flat, Value.cells, *]), by omega, CH_27⟩
    · skip
      try simp only [Bool.and_eq_true, Bool.or_eq_true, Bool.not_eq_true', Bool.not_eq_false', Bool.and_eq_false_iff, Bool.or_eq_false_iff, decide_eq_true_eq, decide_eq_false_iff_not] at hc9
      refine VC.skip ?_
      refine VQ.then_code ?_
      refine VC.seq ?_
      refine VC.region ?_
      refine VO.mv (Rn.move rfl) rfl rfl rfl ?_
      refine VO.mv (Rn.move rfl) rfl rfl rfl ?_
      refine VO.mv (Rn.nilCheck rfl) rfl rfl rfl ?_
      refine VO.mv (Rn.field Tryz.underlying124 rfl Tryz.sizeOf3 rfl rfl rfl) rfl rfl rfl ?_
      refine VO.wk (Wk.lit Tryz.underlying119 inf122w33 (by decide) rfl rfl (by rfl) (by decide) (by decide) (by rfl)) rfl rfl rfl ?_
      rintro _ w34 ⟨p34, rfl, N34⟩
      have c34 := N34.ch
      have e34 := N34.p; have z34 := N34.size
      have l35 := SlR.of_new (sz := 1) (l := 1) N34 rfl
      have l35o := Ow.of_new (sz := 1) (l := 1) N34 rfl (by decide)
      have l14o_34 := l14o.keep c34
      refine VO.wk (Wk.append (S := _) Tryz.underlying119 inf122w33 rfl (by decide) rfl rfl l14o_34 l35 (by rfl) (fun h => by simp at h) (by omega) (by simp only [maxLen]; omega)) rfl rfl rfl ?_
      rintro _ w35 ⟨r35, A35, k35, rfl, o35, c35, q35⟩
      have z35 := c35.size
      have y35 := o35.lt
      refine VO.mv (Rn.assign rfl) rfl rfl rfl ?_
      refine VO.nil ?_
      refine VQ.then_code ?_
      refine VC.seq ?_
      refine VC.seq ?_
      refine VC.region ?_
      refine VO.mv (Rn.field Tryz.underlying149 rfl Tryz.sizeOf3 rfl rfl rfl) rfl rfl rfl ?_
      have b3_34 := b3_3.keep c34
      have b3_35 := b3_34.to c35 (by first | exact id | omega)
      refine VO.mv (Rn.load Tryz.isAgg3 rfl (b3_35.cell rfl)) rfl rfl rfl ?_
      refine VO.mv (Rn.gtr rfl rfl) rfl rfl rfl ?_
      refine VO.nil ?_
      refine VQ.then_code ?_
      refine VC.cond_if rfl (fun hc13 => ?_) (fun hc13 => ?_)
      · skip
        refine VC.region ?_
        refine VO.mv (Rn.move rfl) rfl rfl rfl ?_
        refine VO.mv (Rn.move rfl) rfl rfl rfl ?_
        refine VO.mv (Rn.nilCheck rfl) rfl rfl rfl ?_
        refine VO.mv (Rn.field Tryz.underlying124 rfl Tryz.sizeOf3 rfl rfl rfl) rfl rfl rfl ?_
        refine VO.wk (Wk.lit Tryz.underlying119 inf122w33 (by decide) rfl rfl (by rfl) (by decide) (by decide) (by rfl)) rfl rfl rfl ?_
        rintro _ w36 ⟨p36, rfl, N36⟩
        have c36 := N36.ch
        have e36 := N36.p; have z36 := N36.size
        have l44 := SlR.of_new (sz := 1) (l := 1) N36 rfl
        have l44o := Ow.of_new (sz := 1) (l := 1) N36 rfl (by decide)
        have row_36 := o35.keep c36
        refine VO.wk (Wk.append (S := _) Tryz.underlying119 inf122w33 rfl (by decide) rfl rfl row_36 l44 (by rfl) (fun h => by simp at h) (by omega) (by simp only [maxLen]; omega)) rfl rfl rfl ?_
        rintro _ w37 ⟨r37, A37, k37, rfl, o37, c37, q37⟩
        have z37 := c37.size
        have y37 := o37.lt
        refine VO.mv (Rn.assign rfl) rfl rfl rfl ?_
        refine VO.nil ?_
        refine VQ.then_code ?_
        refine VC.seq ?_
        refine VC.seq ?_
        refine VC.region ?_
        refine VO.mv (Rn.field Tryz.underlying149 rfl Tryz.sizeOf4 rfl rfl rfl) rfl rfl rfl ?_
        have b3_36 := b3_35.keep c36
        have b3_37 := b3_36.to c37 (by first | exact id | omega)
        refine VO.mv (Rn.load Tryz.isAgg4 rfl (b3_37.cell rfl)) rfl rfl rfl ?_
        refine VO.nil ?_
        refine VQ.then_code ?_
        refine VC.cond rfl (fun hc14 => ?_) (fun hc14 => ?_)
        · skip
          try simp only [Bool.and_eq_true, Bool.or_eq_true, Bool.not_eq_true', Bool.not_eq_false', Bool.and_eq_false_iff, Bool.or_eq_false_iff, decide_eq_true_eq, decide_eq_false_iff_not] at hc14
          refine VC.region ?_
          refine VO.mv (Rn.move rfl) rfl rfl rfl ?_
          refine VO.mv (Rn.move rfl) rfl rfl rfl ?_
          refine VO.mv (Rn.nilCheck rfl) rfl rfl rfl ?_
          refine VO.mv (Rn.field Tryz.underlying124 rfl Tryz.sizeOf3 rfl rfl rfl) rfl rfl rfl ?_
          refine VO.wk (Wk.lit Tryz.underlying119 inf122w33 (by decide) rfl rfl (by rfl) (by decide) (by decide) (by rfl)) rfl rfl rfl ?_
          rintro _ w38 ⟨p38, rfl, N38⟩
          have c38 := N38.ch
          have e38 := N38.p; have z38 := N38.size
          have l52 := SlR.of_new (sz := 1) (l := 1) N38 rfl
          have l52o := Ow.of_new (sz := 1) (l := 1) N38 rfl (by decide)
          have row_38 := o37.keep c38
          refine VO.wk (Wk.append (S := _) Tryz.underlying119 inf122w33 rfl (by decide) rfl rfl row_38 l52 (by rfl) (fun h => by simp at h) (by omega) (by simp only [maxLen]; omega)) rfl rfl rfl ?_
          rintro _ w39 ⟨r39, A39, k39, rfl, o39, c39, q39⟩
          have z39 := c39.size
          have y39 := o39.lt
          refine VO.mv (Rn.assign rfl) rfl rfl rfl ?_
          refine VO.nil ?_
          refine VQ.then_code ?_
          refine VC.seq ?_
          refine VC.region ?_
          refine VO.mv (Rn.move rfl) rfl rfl rfl ?_
          refine VO.mv (Rn.assign rfl) rfl rfl rfl ?_
          refine VO.nil ?_
          refine VQ.then_code ?_
          refine VC.ret ?_
          refine VQ.ret1 rfl rfl ?_
          refine Ret.mk ?_
          have hlen := o39.1
          have cc_0_34 : Ch No w w34 := (((Ch.then (E := No) c1 c2 (by intro q h1 h2; rcases h2 with h2 | h2 <;> first | exact h2 | (exfalso; omega))).and c3).and c34)
          have CH_34 := (Ch.refl (No) w).and cc_0_34
          have CH_35 : Ch (No) w w35 := CH_34.then c35 (by intro q h1 h2; rcases h2 with h2 | h2 <;> first | exact h2 | (exfalso; omega) | omega)
          have CH_36 := CH_35.and c36
          have CH_37 : Ch (No) w w37 := CH_36.then c37 (by intro q h1 h2; rcases h2 with h2 | h2 <;> first | exact h2 | (exfalso; omega) | omega)
          have CH_38 := CH_37.and c38
          have CH_39 : Ch (No) w w39 := CH_38.then c39 (by intro q h1 h2; rcases h2 with h2 | h2 <;> first | exact h2 | (exfalso; omega) | omega)
          exact ⟨r39, A39, k39, by simp [fieldIx, *], (o39).to' (by simp [fieldIx, *]) (by simp [fieldIx, flat, Value.cells, *]), by omega, CH_39⟩
        · skip
          try simp only [Bool.and_eq_true, Bool.or_eq_true, Bool.not_eq_true', Bool.not_eq_false', Bool.and_eq_false_iff, Bool.or_eq_false_iff, decide_eq_true_eq, decide_eq_false_iff_not] at hc14
          refine VC.skip ?_
          refine VQ.then_code ?_
          refine VC.seq ?_
          refine VC.region ?_
          refine VO.mv (Rn.move rfl) rfl rfl rfl ?_
          refine VO.mv (Rn.assign rfl) rfl rfl rfl ?_
          refine VO.nil ?_
          refine VQ.then_code ?_
          refine VC.ret ?_
          refine VQ.ret1 rfl rfl ?_
          refine Ret.mk ?_
          have hlen := o37.1
          have cc_0_34 : Ch No w w34 := (((Ch.then (E := No) c1 c2 (by intro q h1 h2; rcases h2 with h2 | h2 <;> first | exact h2 | (exfalso; omega))).and c3).and c34)
          have CH_34 := (Ch.refl (No) w).and cc_0_34
          have CH_35 : Ch (No) w w35 := CH_34.then c35 (by intro q h1 h2; rcases h2 with h2 | h2 <;> first | exact h2 | (exfalso; omega) | omega)
          have CH_36 := CH_35.and c36
          have CH_37 : Ch (No) w w37 := CH_36.then c37 (by intro q h1 h2; rcases h2 with h2 | h2 <;> first | exact h2 | (exfalso; omega) | omega)
          exact ⟨r37, A37, k37, by simp [fieldIx, *], (o37).to' (by simp [fieldIx, *]) (by simp [fieldIx, flat, Value.cells, *]), by omega, CH_37⟩
      · skip
        refine VC.skip ?_
        refine VQ.then_code ?_
        refine VC.seq ?_
        refine VC.seq ?_
        refine VC.region ?_
        refine VO.mv (Rn.field Tryz.underlying149 rfl Tryz.sizeOf4 rfl rfl rfl) rfl rfl rfl ?_
        refine VO.mv (Rn.load Tryz.isAgg4 rfl (b3_35.cell rfl)) rfl rfl rfl ?_
        refine VO.nil ?_
        refine VQ.then_code ?_
        refine VC.cond rfl (fun hc15 => ?_) (fun hc15 => ?_)
        · skip
          try simp only [Bool.and_eq_true, Bool.or_eq_true, Bool.not_eq_true', Bool.not_eq_false', Bool.and_eq_false_iff, Bool.or_eq_false_iff, decide_eq_true_eq, decide_eq_false_iff_not] at hc15
          refine VC.region ?_
          refine VO.mv (Rn.move rfl) rfl rfl rfl ?_
          refine VO.mv (Rn.move rfl) rfl rfl rfl ?_
          refine VO.mv (Rn.nilCheck rfl) rfl rfl rfl ?_
          refine VO.mv (Rn.field Tryz.underlying124 rfl Tryz.sizeOf3 rfl rfl rfl) rfl rfl rfl ?_
          refine VO.wk (Wk.lit Tryz.underlying119 inf122w33 (by decide) rfl rfl (by rfl) (by decide) (by decide) (by rfl)) rfl rfl rfl ?_
          rintro _ w40 ⟨p40, rfl, N40⟩
          have c40 := N40.ch
          have e40 := N40.p; have z40 := N40.size
          have l52 := SlR.of_new (sz := 1) (l := 1) N40 rfl
          have l52o := Ow.of_new (sz := 1) (l := 1) N40 rfl (by decide)
          have row_40 := o35.keep c40
          refine VO.wk (Wk.append (S := _) Tryz.underlying119 inf122w33 rfl (by decide) rfl rfl row_40 l52 (by rfl) (fun h => by simp at h) (by omega) (by simp only [maxLen]; omega)) rfl rfl rfl ?_
          rintro _ w41 ⟨r41, A41, k41, rfl, o41, c41, q41⟩
          have z41 := c41.size
          have y41 := o41.lt
          refine VO.mv (Rn.assign rfl) rfl rfl rfl ?_
          refine VO.nil ?_
          refine VQ.then_code ?_
          refine VC.seq ?_
          refine VC.region ?_
          refine VO.mv (Rn.move rfl) rfl rfl rfl ?_
          refine VO.mv (Rn.assign rfl) rfl rfl rfl ?_
          refine VO.nil ?_
          refine VQ.then_code ?_
          refine VC.ret ?_
          refine VQ.ret1 rfl rfl ?_
          refine Ret.mk ?_
          have hlen := o41.1
          have cc_0_34 : Ch No w w34 := (((Ch.then (E := No) c1 c2 (by intro q h1 h2; rcases h2 with h2 | h2 <;> first | exact h2 | (exfalso; omega))).and c3).and c34)
          have CH_34 := (Ch.refl (No) w).and cc_0_34
          have CH_35 : Ch (No) w w35 := CH_34.then c35 (by intro q h1 h2; rcases h2 with h2 | h2 <;> first | exact h2 | (exfalso; omega) | omega)
          have CH_40 := CH_35.and c40
          have CH_41 : Ch (No) w w41 := CH_40.then c41 (by intro q h1 h2; rcases h2 with h2 | h2 <;> first | exact h2 | (exfalso; omega) | omega)
          exact ⟨r41, A41, k41, by simp [fieldIx, *], (o41).to' (by simp [fieldIx, *]) (by simp [fieldIx, flat, Value.cells, *]), by omega, CH_41⟩
        · skip
          try simp only [Bool.and_eq_true, Bool.or_eq_true, Bool.not_eq_true', Bool.not_eq_false', Bool.and_eq_false_iff, Bool.or_eq_false_iff, decide_eq_true_eq, decide_eq_false_iff_not] at hc15
          refine VC.skip ?_
          refine VQ.then_code ?_
          refine VC.seq ?_
          refine VC.region ?_
          refine VO.mv (Rn.move rfl) rfl rfl rfl ?_
          refine VO.mv (Rn.assign rfl) rfl rfl rfl ?_
          refine VO.nil ?_
          refine VQ.then_code ?_
          refine VC.ret ?_
          refine VQ.ret1 rfl rfl ?_
          refine Ret.mk ?_
          have hlen := o35.1
          have cc_0_34 : Ch No w w34 := (((Ch.then (E := No) c1 c2 (by intro q h1 h2; rcases h2 with h2 | h2 <;> first | exact h2 | (exfalso; omega))).and c3).and c34)
          have CH_34 := (Ch.refl (No) w).and cc_0_34
          have CH_35 : Ch (No) w w35 := CH_34.then c35 (by intro q h1 h2; rcases h2 with h2 | h2 <;> first | exact h2 | (exfalso; omega) | omega)
          exact ⟨r35, A35, k35, by simp [fieldIx, *], (o35).to' (by simp [fieldIx, *]) (by simp [fieldIx, flat, Value.cells, *]), by omega, CH_35⟩

set_option maxRecDepth 100000 in
theorem steps_head (p : Nat) (cs : Array Value) (w : World) (bp : Bk w p cs 78) :
    Calls Tryz.prog 62 #[.pointer (some ⟨p, 0, none⟩)] w (Ret (fun v w' => ∃ r A c, v = .slice A 4 c ∧ Ow w' r 122 1 A 4 c ([0, 1, 2, 3].map (ptrAt p)) ∧ w.heap.size < r ∧ Ch No w w')) := by
  refine calls_of_VC (args := [.pointer (some ⟨p, 0, none⟩)]) Tryz.func62 rfl Tryz.ntmps62 rfl ?_
  refine VC.seq ?_
  refine VC.region ?_
  refine VO.mv (Rn.assign rfl) rfl rfl rfl ?_
  refine VO.nil ?_
  refine VQ.then_code ?_
  refine VC.seq ?_
  refine VC.draws 13 [(0, true), (1, true), (2, true), (3, true), (4, true), (5, true), (6, true), (7, true), (8, true), (9, true), (10, true), (11, true), (12, false)] (fun w1 w' => Ch (No) w1 w') mixed (by kernel_rfl) (fun _ _ => Ch.refl _ _) ?_
  intro w1 D1
  have c1 := Ch.of_drew D1; have z1 := c1.size
  refine VH.mv (fun w' hS => Rn.move rfl) rfl rfl rfl rfl ?_
  refine VH.mv (fun w' hS => Rn.nilCheck rfl) rfl rfl rfl rfl ?_
  refine VH.mv (fun w' hS => Rn.field Tryz.underlying78 rfl Tryz.sizeOf3 rfl rfl rfl) rfl rfl rfl rfl ?_
  refine VH.mv (fun w' hS => Rn.move rfl) rfl rfl rfl rfl ?_
  refine VH.mv (fun w' hS => Rn.nilCheck rfl) rfl rfl rfl rfl ?_
  refine VH.mv (fun w' hS => Rn.field Tryz.underlying78 rfl Tryz.sizeOf3 rfl rfl rfl) rfl rfl rfl rfl ?_
  refine VH.mv (fun w' hS => Rn.move rfl) rfl rfl rfl rfl ?_
  refine VH.mv (fun w' hS => Rn.nilCheck rfl) rfl rfl rfl rfl ?_
  refine VH.mv (fun w' hS => Rn.field Tryz.underlying78 rfl Tryz.sizeOf3 rfl rfl rfl) rfl rfl rfl rfl ?_
  refine VH.mv (fun w' hS => Rn.move rfl) rfl rfl rfl rfl ?_
  refine VH.mv (fun w' hS => Rn.nilCheck rfl) rfl rfl rfl rfl ?_
  refine VH.mv (fun w' hS => Rn.field Tryz.underlying78 rfl Tryz.sizeOf3 rfl rfl rfl) rfl rfl rfl rfl ?_
  refine VH.wk (Wk.lit Tryz.underlying119 inf122w33 (by decide) rfl rfl (by rfl) (by decide) (by decide) (by rfl)) rfl rfl rfl rfl ?_
  rintro _ w2 ⟨p2, rfl, N2⟩
  have c2 := N2.ch
  have e2 := N2.p; have z2 := N2.size
  have l15 := SlR.of_new (sz := 1) (l := 4) N2 rfl
  have l15o := Ow.of_new (sz := 1) (l := 4) N2 rfl (by decide)
  have RD_2 := (Ch.refl (No) w1).and c2
  refine ⟨RD_2, ?_⟩
  refine VH.done ?_
  refine VO.mv (Rn.assign rfl) rfl rfl rfl ?_
  refine VO.nil ?_
  refine VQ.noPanic ?_
  refine VQ.then_code ?_
  refine VC.ret ?_
  refine VQ.ret1 rfl rfl ?_
  refine Ret.mk ?_
  have CH_2 := (Ch.refl (No) w).and (c1.trans c2)
  exact ⟨_, _, _, rfl, l15o, by omega, CH_2⟩

end Go.Tm
namespace Go.Tm
open Go.RowKit Go.Proofs
theorem Rn.convTo {P : Program} {n : Fr} {k : K} {w : World} {d : Option Tmp} {ty : TypeId} {pos : String} {aft : Array Edge} {g : Option (Nat × Bool)} {s t : TypeId} {q q' : IntKind} {ds : TypeDesc} {x : Operand} {a r : Int} (hs : P.underlying s = some ds) (ht : P.underlying t = some (.int q')) (hx : ev k x = some (.int q a)) (hb : q'.wrap a = r) : Rn P n k w { dst := d, op := .convert s t x, type := ty, pos := pos, after := aft, guard := g } (.int q' r) := by
  subst hb; exact Rn.conv hs ht hx
theorem Rn.lssF {P : Program} {n : Fr} {k : K} {w : World} {d : Option Tmp} {ty : TypeId} {pos : String} {aft : Array Edge} {g : Option (Nat × Bool)} {t t' : TypeId} {x y : Operand} {q : IntKind} {a b : Int} (hx : ev k x = some (.int q a)) (hy : ev k y = some (.int q b)) (h : ¬ a < b) : Rn P n k w { dst := d, op := .binOp .lss t x y t', type := ty, pos := pos, after := aft, guard := g } (.bool false) := by
  have := Rn.lss (P := P) (n := n) (w := w) (d := d) (ty := ty) (pos := pos) (aft := aft) (g := g) (t := t) (t' := t') hx hy
  rwa [decide_eq_false h] at this
theorem steps_form_ok (s : Stp) (w : World) (st : StT w) (hn : -1000000000 ≤ s.n ∧ s.n ≤ 1000000000) (h : formM s = true) : Calls Tryz.prog 63 #[.agg #[.int .i64 s.op, .int .i64 s.dst, .int .i64 s.src, .int .i64 s.jump, .int .i64 s.count, .int .i64 s.n, .int .i64 s.k]] w (Ret fun v w' => v = .bool true ∧ Ch No w w') := by
  refine (steps_form s w st hn).mono ?_
  rintro e w' ⟨v, rfl, rfl, h3⟩
  exact ⟨_, rfl, by rw [h], h3⟩
theorem fromM_n {has : Bool} {x lo hi : Int} (h : fromM has x lo hi = true) (h0 : 0 ≤ lo) (h1 : hi ≤ 16384) : 0 ≤ x ∧ x ≤ 16384 := by
  cases has
  · have : x = 0 := by simpa [fromM] using h
    omega
  · have := fromM_bd h; omega
theorem form_n {s : Stp} (h : formM s = true) : 0 ≤ s.n ∧ s.n ≤ 16384 := by
  unfold formM at h
  split at h
  · cases h
  have kn : ∀ i, kN i ≤ 16384 := by intro i; unfold kN; split <;> (try split) <;> (try split) <;> omega
  have h2 : (fromM true s.dst 0 262143 && fromM true s.count 1 262144 && fromM (kSrc s.op.toNat) s.src 0 262143 && fromM (kJmp s.op.toNat) s.jump 1 262144 && fromM (decide (kN s.op.toNat > 0)) s.n (if s.op = 5 then 2 else 1) (kN s.op.toNat) && fromM (kK s.op.toNat) s.k 0 (s.n - 1)) = true := by
    cases hq : (fromM true s.dst 0 262143 && fromM true s.count 1 262144 && fromM (kSrc s.op.toNat) s.src 0 262143 && fromM (kJmp s.op.toNat) s.jump 1 262144 && fromM (decide (kN s.op.toNat > 0)) s.n (if s.op = 5 then 2 else 1) (kN s.op.toNat) && fromM (kK s.op.toNat) s.k 0 (s.n - 1)) with
    | true => rfl
    | false =>
      simp only [hq, if_true] at h
      cases h
  simp only [Bool.and_eq_true] at h2
  exact fromM_n h2.1.2 (by split <;> omega) (kn _)
theorem four_get {i : Nat} (h : i < 4) : ([0, 1, 2, 3] : List Nat)[i]? = some i := by
  match i, h with
  | 0, _ => rfl
  | 1, _ => rfl
  | 2, _ => rfl
  | 3, _ => rfl
theorem fieldIx_len (op : Nat) : (fieldIx op).length ≤ 6 := by
  unfold fieldIx
  simp only [List.length_append]
  split <;> split <;> split <;> split <;> simp
theorem nat_of {x : Int} (h : 0 ≤ x) : ∃ n : Nat, x = n := ⟨x.toNat, by omega⟩
abbrev hdB (b : Bld) : List UInt8 := b.hd.flatMap fun x => uintB x.toNat
theorem take_flat {α : Type} (L : List α) (f : α → List UInt8) {i : Nat} {x : α} (h : L[i]? = some x) : (L.take (i + 1)).flatMap f = (L.take i).flatMap f ++ f x := by
  rw [List.take_add_one, h]; simp


set_option maxHeartbeats 8000000 in
set_option maxRecDepth 100000 in
theorem steps_Encode (b : Bld) (ok : okB b) (S : Nat → Prop) (A : Option Addr) (c : Nat) (w : World) (st : StT w) (sb : SlR S w A b.steps.length 7 (flatS b.steps)) (hS : ∀ y, S y → y < w.heap.size) (hG : 23 ≤ w.heap.size) :
    Calls Tryz.prog 46 #[.agg #[.int .i64 b.ln, .int .i64 b.cl, .int .i64 b.i0, .int .i64 b.ou, .slice A b.steps.length c]] w (Ret (fun v w' => ∃ r A' c', v = .tuple #[.slice A' (encB b).length c', .nilIface] ∧ Ow w' r 5 1 A' (encB b).length c' (Lib.byteCells (encB b)) ∧ (r = 0 ∨ w.heap.size < r) ∧ (encB b).length ≤ 5000000 ∧ Ch No w w')) := by
  have hlen := ok.len
  have hul := uintB_len (n := b.steps.length) (by omega)
  have hun := uintB_ne b.steps.length
  refine calls_of_VC (args := [.agg #[.int .i64 b.ln, .int .i64 b.cl, .int .i64 b.i0, .int .i64 b.ou, .slice A b.steps.length c]]) Tryz.func46 rfl Tryz.ntmps46 rfl ?_
  refine VC.seq ?_
  refine VC.region ?_
  refine VO.wk (Wk.box rfl) rfl rfl rfl ?_
  rintro _ w1 ⟨p1, rfl, N1⟩
  have c1 := N1.ch
  have e1 := N1.p; have z1 := N1.size
  have b1 := Bk.new N1
  refine VO.mv (Rn.assign rfl) rfl rfl rfl ?_
  refine VO.mv (Rn.assign rfl) rfl rfl rfl ?_
  refine VO.nil ?_
  refine VQ.then_code ?_
  refine VC.seq ?_
  refine VC.seq ?_
  refine VC.region ?_
  refine VO.mv (Rn.field Tryz.underlying78 rfl Tryz.sizeOf76 rfl rfl rfl) rfl rfl rfl ?_
  refine VO.mv (Rn.load Tryz.isAgg76 rfl (b1.cell rfl)) rfl rfl rfl ?_
  refine VO.mv (Rn.len Tryz.underlying76 rfl) rfl rfl rfl ?_
  refine VO.mv (Rn.gtr rfl rfl) rfl rfl rfl ?_
  refine VO.nil ?_
  refine VQ.then_code ?_
  refine VC.cond_if rfl (fun hc1 => ?_) (fun hc1 => ?_)
  · skip
    omega
  · skip
    refine VC.skip ?_
    refine VQ.then_code ?_
    refine VC.seq ?_
    refine VC.region ?_
    refine VO.wk (Wk.call Tryz.call29 rfl (pack_New _)) rfl rfl rfl ?_
    rintro _ w2 ⟨qw, rfl, wr2, yqw, c2⟩
    have lw2 := wr2.lt
    have z2 := c2.size
    refine VO.mv (Rn.assign rfl) rfl rfl rfl ?_
    refine VO.nil ?_
    refine VQ.then_code ?_
    refine VC.seq ?_
    refine VC.seq ?_
    refine VC.region ?_
    have b1_2 := b1.keep c2
    refine VO.wk (Wk.call Tryz.call62 rfl (steps_head _ _ _ b1_2)) rfl rfl rfl ?_
    rintro _ w3 ⟨rh, hA, hc, rfl, hl3, yrh, c3⟩
    have lhl3 := hl3.lt
    have z3 := c3.size
    refine VO.mv (Rn.len Tryz.underlying119 rfl) rfl rfl rfl ?_
    refine VO.mv (Rn.move rfl) rfl rfl rfl ?_
    refine VO.nil ?_
    refine VQ.then_code ?_
    refine VC.block ?_
    have wr_3 := wr2.keep c3
    have b1_3 := b1_2.keep c3
    have sb_3 := sb.keep (c1.trans (c2.trans c3))
    have st_3 := st.keep (c1.trans (c2.trans c3))
    have CH_3 := (Ch.refl (No) w).and (c1.trans (c2.trans c3))
    refine VC.loopS (σ := Nat × List UInt8 × Nat) (fun (i, o, r2) => [(1, .pointer (some ⟨p1, 0, none⟩)), (4, .pointer (some ⟨qw, 0, none⟩)), (17, .slice hA 4 hc), (18, .int .i64 4), (19, .int .i64 i)]) (fun (i, o, r2) w' => i ≤ 4 ∧ o = (b.hd.take i).flatMap (fun x => uintB x.toNat) ∧ o.length ≤ 10 * i ∧ (r2 = 0 ∨ w3.heap.size < r2) ∧ w3.heap.size ≤ w'.heap.size ∧ WrR w' qw r2 o ∧ Bk w' p1 (bldC b A c) 78 ∧ Ow w' rh 122 1 hA 4 hc ([0, 1, 2, 3].map (ptrAt p1)) ∧ SlR S w' A b.steps.length 7 (flatS b.steps) ∧ StT w' ∧ Ch (No) w w') (fun (i, o, r2) => 4 - i) (0, [], 0) ?_ ⟨rfl, rfl, rfl, rfl, rfl, trivial⟩ ?_
    · exact ⟨(by omega), (by simp), (by simp), (by omega), (Nat.le_refl _), wr_3, b1_3, hl3, sb_3, st_3, CH_3⟩
    rintro ⟨i, o, r2⟩ w4 ⟨hi, ho, hol, hr2, hsz4, wr_4, b1_4, hl_4, sb_4, st_4, CH_4⟩
    show VC _ _ _ _ [(1, .pointer (some ⟨p1, 0, none⟩)), (4, .pointer (some ⟨qw, 0, none⟩)), (17, .slice hA 4 hc), (18, .int .i64 4), (19, .int .i64 i)] _
    have lwr := wr_4.lt
    refine VC.seq ?_
    refine VC.region ?_
    refine VO.mv (Rn.lss rfl rfl) rfl rfl rfl ?_
    refine VO.nil ?_
    refine VQ.then_code ?_
    refine VC.seq ?_
    refine VC.cond_if rfl (fun hc2 => ?_) (fun hc2 => ?_)
    · skip
      refine VC.skip ?_
      refine VQ.then_code ?_
      refine VC.seq ?_
      refine VC.block ?_
      refine VC.seq ?_
      have hi4 : i < 4 := by omega
      obtain ⟨x', hx'⟩ : ∃ x', b.hd[i]? = some x' := ⟨_, List.getElem?_eq_getElem (show i < b.hd.length by show i < 4; omega)⟩
      have hxb := ok.hd x' (List.mem_of_getElem? hx')
      obtain ⟨x, rfl⟩ := nat_of hxb.1
      have hx := hx'
      have hux := uintB_len (n := x) (by omega)
      refine VC.region ?_
      refine VO.mv (Rn.indexS Tryz.underlying119 Tryz.sizeOf122 rfl rfl (hl_4.sl.ne (by omega)) (by omega) (by omega)) rfl rfl rfl ?_
      refine VO.mv (Rn.load Tryz.isAgg122 rfl (ptr_get hl_4.sl (four_get hi4))) rfl rfl rfl ?_
      refine VO.mv (Rn.assign rfl) rfl rfl rfl ?_
      refine VO.nil ?_
      refine VQ.then_code ?_
      refine VC.seq ?_
      refine VC.seq ?_
      refine VC.region ?_
      refine VO.mv (Rn.move rfl) rfl rfl rfl ?_
      refine VO.mv (Rn.nilCheck rfl) rfl rfl rfl ?_
      refine VO.mv (Rn.load Tryz.isAgg3 rfl (b1_4.cell (hd_cell b A c hx))) rfl rfl rfl ?_
      refine VO.mv (Rn.lssF rfl rfl (by omega)) rfl rfl rfl ?_
      refine VO.mv (Rn.move rfl) rfl rfl rfl ?_
      refine VO.mv (Rn.move rfl) rfl rfl rfl ?_
      refine VO.mv (Rn.nilCheck rfl) rfl rfl rfl ?_
      refine VO.mv (Rn.load Tryz.isAgg3 rfl (b1_4.cell (hd_cell b A c hx))) rfl rfl rfl ?_
      refine VO.mv (Rn.gtrF rfl rfl (by omega)) rfl rfl rfl ?_
      refine VO.mv (Rn.pick_false rfl rfl) rfl rfl rfl ?_
      refine VO.nil ?_
      refine VQ.then_code ?_
      refine VC.cond_false rfl ?_
      refine VC.skip ?_
      refine VQ.then_code ?_
      refine VC.region ?_
      refine VO.mv (Rn.move rfl) rfl rfl rfl ?_
      refine VO.mv (Rn.move rfl) rfl rfl rfl ?_
      refine VO.mv (Rn.nilCheck rfl) rfl rfl rfl ?_
      refine VO.mv (Rn.load Tryz.isAgg3 rfl (b1_4.cell (hd_cell b A c hx))) rfl rfl rfl ?_
      refine VO.mv (Rn.convTo Tryz.underlying3 Tryz.underlying75 rfl (r := ((x : Nat) : Int)) (by rw [IntKind.wrap_u64]; omega)) rfl rfl rfl ?_
      refine VO.wk (Wk.call Tryz.call30 rfl (pack_Uint qw r2 (o) (x) (by omega) _ wr_4 (by first | omega | (simp; done) | (simp; omega)))) rfl rfl rfl ?_
      rintro _ w5 ⟨rw5, rfl, wr5, yw5, c5⟩
      have lw5 := wr5.lt
      have z5 := c5.size
      refine VO.nil ?_
      refine VQ.block_normal ?_
      refine VQ.then_code ?_
      refine VC.region ?_
      refine VO.mv (Rn.add rfl rfl (by rw [IntKind.wrap_i64]; omega)) rfl rfl rfl ?_
      refine VO.mv (Rn.move rfl) rfl rfl rfl ?_
      refine VO.nil ?_
      refine VQ.round (i + 1, o ++ uintB x, rw5) (by (dsimp only; omega)) ?_ ⟨rfl, rfl, rfl, rfl, rfl, trivial⟩
      have b1_5 := b1_4.to c5 (by first | exact id | omega)
      have hl_5 := hl_4.to c5 (by first | exact fun _ _ _ _ => id | (intro q h1 h2 hx h3; omega))
      have sb_5 := sb_4.to c5 (by first | exact fun _ _ _ _ => id | (intro q h1 h2 hx h3; have := hS q h2; omega))
      have st_5 := st_4.to c5 (by first | exact fun _ _ _ _ => id | (intro q h1 h2 hx h3; omega))
      have CH_5 : Ch (No) w w5 := CH_4.then c5 (by intro q h1 h2; rcases h2 with h2 | h2 <;> first | exact h2 | (exfalso; omega) | omega)
      exact ⟨(by omega), (by rw [take_flat _ _ hx, ho]; simp), (by rw [List.length_append]; omega), (by omega), (by omega), wr5, b1_5, hl_5, sb_5, st_5, CH_5⟩
    · skip
      refine VC.exit ?_
      refine VQ.then_exit ?_
      refine VQ.then_exit ?_
      refine VQ.block_exit ?_
      refine VQ.then_code ?_
      refine VC.seq ?_
      have hoh : o = hdB b := by rw [ho, List.take_of_length_le (show b.hd.length ≤ i by show 4 ≤ i; omega)]
      clear ho; subst hoh
      refine VC.region ?_
      refine VO.mv (Rn.move rfl) rfl rfl rfl ?_
      refine VO.mv (Rn.field Tryz.underlying78 rfl Tryz.sizeOf76 rfl rfl rfl) rfl rfl rfl ?_
      refine VO.mv (Rn.load Tryz.isAgg76 rfl (b1_4.cell rfl)) rfl rfl rfl ?_
      refine VO.mv (Rn.len Tryz.underlying76 rfl) rfl rfl rfl ?_
      refine VO.mv (Rn.convTo Tryz.underlying3 Tryz.underlying75 rfl (r := ((b.steps.length : Nat) : Int)) (by rw [IntKind.wrap_u64]; omega)) rfl rfl rfl ?_
      refine VO.wk (Wk.call Tryz.call30 rfl (pack_Uint qw r2 (hdB b) (b.steps.length) (by omega) _ wr_4 (by first | omega | (simp; done) | (simp; omega)))) rfl rfl rfl ?_
      rintro _ w6 ⟨rw6, rfl, wr6, yw6, c6⟩
      have lw6 := wr6.lt
      have z6 := c6.size
      refine VO.nil ?_
      refine VQ.then_code ?_
      refine VC.seq ?_
      refine VC.seq ?_
      refine VC.region ?_
      refine VO.mv (Rn.field Tryz.underlying78 rfl Tryz.sizeOf76 rfl rfl rfl) rfl rfl rfl ?_
      have b1_6 := b1_4.to c6 (by first | exact id | omega)
      refine VO.mv (Rn.load Tryz.isAgg76 rfl (b1_6.cell rfl)) rfl rfl rfl ?_
      refine VO.mv (Rn.len Tryz.underlying76 rfl) rfl rfl rfl ?_
      refine VO.mv (Rn.move rfl) rfl rfl rfl ?_
      refine VO.nil ?_
      refine VQ.then_code ?_
      refine VC.block ?_
      have sb_6 := sb_4.to c6 (by first | exact fun _ _ _ _ => id | (intro q h1 h2 hx h3; have := hS q h2; omega))
      have st_6 := st_4.to c6 (by first | exact fun _ _ _ _ => id | (intro q h1 h2 hx h3; omega))
      have CH_6 : Ch (No) w w6 := CH_4.then c6 (by intro q h1 h2; rcases h2 with h2 | h2 <;> first | exact h2 | (exfalso; omega) | omega)
      refine VC.loopS (σ := Nat × List UInt8 × Nat) (fun (i, o, r2) => [(4, .pointer (some ⟨qw, 0, none⟩)), (48, .slice A b.steps.length c), (49, .int .i64 b.steps.length), (50, .int .i64 i)]) (fun (i, o, r2) w' => i ≤ b.steps.length ∧ o = hdB b ++ uintB b.steps.length ++ (b.steps.take i).flatMap encS ∧ o.length ≤ 50 + 70 * i ∧ (r2 = 0 ∨ w.heap.size < r2) ∧ w6.heap.size ≤ w'.heap.size ∧ WrR w' qw r2 o ∧ SlR S w' A b.steps.length 7 (flatS b.steps) ∧ StT w' ∧ Ch (No) w w') (fun (i, o, r2) => b.steps.length - i) (0, hdB b ++ uintB b.steps.length, rw6) ?_ ⟨rfl, rfl, rfl, rfl, trivial⟩ ?_
      · exact ⟨(by omega), (by simp), (by rw [List.length_append]; omega), (by omega), (Nat.le_refl _), wr6, sb_6, st_6, CH_6⟩
      rintro ⟨i, o, r2⟩ w7 ⟨hi, ho, hol, hr2, hsz7, wr_7, sb_7, st_7, CH_7⟩
      show VC _ _ _ _ [(4, .pointer (some ⟨qw, 0, none⟩)), (48, .slice A b.steps.length c), (49, .int .i64 b.steps.length), (50, .int .i64 i)] _
      have lwr := wr_7.lt
      refine VC.seq ?_
      refine VC.region ?_
      refine VO.mv (Rn.lss rfl rfl) rfl rfl rfl ?_
      refine VO.nil ?_
      refine VQ.then_code ?_
      refine VC.seq ?_
      refine VC.cond_if rfl (fun hc3 => ?_) (fun hc3 => ?_)
      · skip
        refine VC.skip ?_
        refine VQ.then_code ?_
        refine VC.seq ?_
        refine VC.block ?_
        refine VC.seq ?_
        obtain ⟨s, hs⟩ : ∃ s, b.steps[i]? = some s := ⟨_, List.getElem?_eq_getElem (by omega)⟩
        have hfm := ok.st s (List.mem_of_getElem? hs)
        have hnb := form_n hfm
        have hfb := form_bd hfm
        have hfl := fieldIx_len s.op.toNat
        obtain ⟨op, hop⟩ := nat_of (show 0 ≤ s.op by omega)
        have huo := uintB_len (n := op) (by omega)
        have ks := sl_step sb_7 rfl hs
        refine VC.region ?_
        refine VO.mv (Rn.indexS Tryz.underlying76 Tryz.sizeOf124 rfl rfl (sb_7.ne (by omega)) (by omega) (by omega)) rfl rfl rfl ?_
        refine VO.mv (Rn.loads Tryz.isAgg124 Tryz.sizeOf124 rfl rfl ks.1) rfl rfl rfl ?_
        refine VO.wk (Wk.alloc Tryz.zeroValue124) rfl rfl rfl ?_
        rintro _ w8 ⟨p8, rfl, N8⟩
        have c8 := N8.ch
        have e8 := N8.p; have z8 := N8.size
        have b8 := Bk.new N8
        refine VO.wk0 (Wk.puts Tryz.sizeOf124 rfl rfl rfl rfl b8 (Nat.le_of_ble_eq_true rfl)) rfl rfl ?_
        intro _ w9 Z9
        have c9 := Z9.ch; have z9 := Z9.size
        have b8_9 := Bk.put Z9
        refine VO.nil ?_
        refine VQ.then_code ?_
        refine VC.seq ?_
        refine VC.seq ?_
        refine VC.region ?_
        refine VO.mv (Rn.loads Tryz.isAgg124 Tryz.sizeOf124 rfl rfl (b8_9.all' rfl)) rfl rfl rfl ?_
        have cc_7_9 : Ch No w7 w9 := (Ch.then (E := No) c8 c9 (by intro q h1 h2; rcases h2 with h2 | h2 <;> first | exact h2 | (exfalso; omega)))
        have st_9 := st_7.keep cc_7_9
        refine VO.wk (Wk.call Tryz.call63 rfl (steps_form_ok s _ st_9 (by omega) hfm)) rfl rfl rfl ?_
        rintro _ w10 ⟨rfl, c10⟩
        have z10 := c10.size
        refine VO.mv (Rn.not rfl) rfl rfl rfl ?_
        refine VO.nil ?_
        refine VQ.then_code ?_
        refine VC.cond_false rfl ?_
        refine VC.skip ?_
        refine VQ.then_code ?_
        refine VC.seq ?_
        refine VC.region ?_
        refine VO.mv (Rn.move rfl) rfl rfl rfl ?_
        refine VO.mv (Rn.field Tryz.underlying124 rfl Tryz.sizeOf3 rfl rfl rfl) rfl rfl rfl ?_
        have b8_10 := b8_9.keep c10
        refine VO.mv (Rn.load Tryz.isAgg3 rfl (b8_10.cell rfl)) rfl rfl rfl ?_
        refine VO.mv (Rn.convTo Tryz.underlying3 Tryz.underlying75 rfl (r := ((op : Nat) : Int)) (by rw [IntKind.wrap_u64]; omega)) rfl rfl rfl ?_
        have cc_7_10 : Ch No w7 w10 := ((Ch.then (E := No) c8 c9 (by intro q h1 h2; rcases h2 with h2 | h2 <;> first | exact h2 | (exfalso; omega))).and c10)
        have wr_10 := wr_7.keep cc_7_10
        refine VO.wk (Wk.call Tryz.call30 rfl (pack_Uint qw r2 (o) (op) (by omega) _ wr_10 (by first | omega | (simp; done) | (simp; omega)))) rfl rfl rfl ?_
        rintro _ w11 ⟨rw11, rfl, wr11, yw11, c11⟩
        have lw11 := wr11.lt
        have z11 := c11.size
        refine VO.nil ?_
        refine VQ.then_code ?_
        refine VC.seq ?_
        refine VC.region ?_
        have st_10 := st_9.keep c10
        have st_11 := st_10.to c11 (by first | exact fun _ _ _ _ => id | (intro q h1 h2 hx h3; omega))
        have b8_11 := b8_10.to c11 (by first | exact id | omega)
        refine VO.wk (Wk.call Tryz.call64 rfl (steps_fields p8 s (by omega) _ st_11 b8_11)) rfl rfl rfl ?_
        rintro _ w12 ⟨rf, fA, fc, rfl, fl12, yrf, c12⟩
        have lfl12 := fl12.lt
        have z12 := c12.size
        refine VO.mv (Rn.len Tryz.underlying119 rfl) rfl rfl rfl ?_
        refine VO.mv (Rn.move rfl) rfl rfl rfl ?_
        refine VO.nil ?_
        refine VQ.then_code ?_
        refine VC.block ?_
        have wr_12 := wr11.keep c12
        have sb_10 := sb_7.keep cc_7_10
        have sb_11 := sb_10.to c11 (by first | exact fun _ _ _ _ => id | (intro q h1 h2 hx h3; have := hS q h2; omega))
        have sb_12 := sb_11.keep c12
        have st_12 := st_11.keep c12
        have b8_12 := b8_11.keep c12
        have CH_10 := CH_7.and cc_7_10
        have CH_11 : Ch (No) w w11 := CH_10.then c11 (by intro q h1 h2; rcases h2 with h2 | h2 <;> first | exact h2 | (exfalso; omega) | omega)
        have CH_12 := CH_11.and c12
        refine VC.loopS (σ := Nat × List UInt8 × Nat) (fun (j, o2, r3) => [(4, .pointer (some ⟨qw, 0, none⟩)), (8, .pointer (some ⟨p8, 0, none⟩)), (48, .slice A b.steps.length c), (49, .int .i64 b.steps.length), (50, .int .i64 i), (63, .slice fA (fieldIx s.op.toNat).length fc), (64, .int .i64 (fieldIx s.op.toNat).length), (65, .int .i64 j)]) (fun (j, o2, r3) w' => j ≤ (fieldIx s.op.toNat).length ∧ o2 = o ++ uintB op ++ ((fieldIx s.op.toNat).take j).flatMap (fun ix => uintB (s.val ix).toNat) ∧ o2.length ≤ 60 + 70 * i + 10 * j ∧ (r3 = rw11 ∨ w12.heap.size < r3) ∧ w12.heap.size ≤ w'.heap.size ∧ WrR w' qw r3 o2 ∧ SlR S w' A b.steps.length 7 (flatS b.steps) ∧ StT w' ∧ Bk w' p8 s.cells.toArray 124 ∧ Ow w' rf 122 1 fA (fieldIx s.op.toNat).length fc ((fieldIx s.op.toNat).map (ptrAt p8)) ∧ Ch (No) w w') (fun (j, o2, r3) => (fieldIx s.op.toNat).length - j) (0, o ++ uintB op, rw11) ?_ ⟨rfl, rfl, rfl, rfl, rfl, rfl, rfl, rfl, trivial⟩ ?_
        · exact ⟨(by omega), (by simp), (by rw [List.length_append]; omega), (by omega), (Nat.le_refl _), wr_12, sb_12, st_12, b8_12, fl12, CH_12⟩
        rintro ⟨j, o2, r3⟩ w13 ⟨hj0, ho2, hol2, hr3, hsz13, wr_13, sb_13, st_13, b8_13, fl_13, CH_13⟩
        show VC _ _ _ _ [(4, .pointer (some ⟨qw, 0, none⟩)), (8, .pointer (some ⟨p8, 0, none⟩)), (48, .slice A b.steps.length c), (49, .int .i64 b.steps.length), (50, .int .i64 i), (63, .slice fA (fieldIx s.op.toNat).length fc), (64, .int .i64 (fieldIx s.op.toNat).length), (65, .int .i64 j)] _
        have lwr := wr_13.lt
        refine VC.seq ?_
        refine VC.region ?_
        refine VO.mv (Rn.lss rfl rfl) rfl rfl rfl ?_
        refine VO.nil ?_
        refine VQ.then_code ?_
        refine VC.seq ?_
        refine VC.cond_if rfl (fun hc4 => ?_) (fun hc4 => ?_)
        · skip
          refine VC.skip ?_
          refine VQ.then_code ?_
          refine VC.seq ?_
          refine VC.block ?_
          refine VC.seq ?_
          obtain ⟨ix, hj⟩ : ∃ ix, (fieldIx s.op.toNat)[j]? = some ix := ⟨_, List.getElem?_eq_getElem (by omega)⟩
          have hix := List.mem_of_getElem? hj
          have hzb := hfb.2 ix hix
          obtain ⟨z, hz⟩ := nat_of hzb.1
          have hcl := s.cell_at (j := ix) (by have := fieldIx_lt hix; omega)
          rw [hz] at hcl
          have huz := uintB_len (n := z) (by omega)
          refine VC.region ?_
          refine VO.mv (Rn.indexS Tryz.underlying119 Tryz.sizeOf122 rfl rfl (fl_13.sl.ne (by omega)) (by omega) (by omega)) rfl rfl rfl ?_
          refine VO.mv (Rn.load Tryz.isAgg122 rfl (ptr_get fl_13.sl hj)) rfl rfl rfl ?_
          refine VO.mv (Rn.assign rfl) rfl rfl rfl ?_
          refine VO.nil ?_
          refine VQ.then_code ?_
          refine VC.region ?_
          refine VO.mv (Rn.move rfl) rfl rfl rfl ?_
          refine VO.mv (Rn.move rfl) rfl rfl rfl ?_
          refine VO.mv (Rn.nilCheck rfl) rfl rfl rfl ?_
          refine VO.mv (Rn.load Tryz.isAgg3 rfl (b8_13.cell (by rw [List.getElem?_toArray]; exact hcl))) rfl rfl rfl ?_
          refine VO.mv (Rn.convTo Tryz.underlying3 Tryz.underlying75 rfl (r := ((z : Nat) : Int)) (by rw [IntKind.wrap_u64]; omega)) rfl rfl rfl ?_
          refine VO.wk (Wk.call Tryz.call30 rfl (pack_Uint qw r3 (o2) (z) (by omega) _ wr_13 (by first | omega | (simp; done) | (simp; omega)))) rfl rfl rfl ?_
          rintro _ w14 ⟨rw14, rfl, wr14, yw14, c14⟩
          have lw14 := wr14.lt
          have z14 := c14.size
          refine VO.nil ?_
          refine VQ.block_normal ?_
          refine VQ.then_code ?_
          refine VC.region ?_
          refine VO.mv (Rn.add rfl rfl (by rw [IntKind.wrap_i64]; omega)) rfl rfl rfl ?_
          refine VO.mv (Rn.move rfl) rfl rfl rfl ?_
          refine VO.nil ?_
          refine VQ.round (j + 1, o2 ++ uintB z, rw14) (by (dsimp only; omega)) ?_ ⟨rfl, rfl, rfl, rfl, rfl, rfl, rfl, rfl, trivial⟩
          have sb_14 := sb_13.to c14 (by first | exact fun _ _ _ _ => id | (intro q h1 h2 hx h3; have := hS q h2; omega))
          have st_14 := st_13.to c14 (by first | exact fun _ _ _ _ => id | (intro q h1 h2 hx h3; omega))
          have b8_14 := b8_13.to c14 (by first | exact id | omega)
          have fl_14 := fl_13.to c14 (by first | exact fun _ _ _ _ => id | (intro q h1 h2 hx h3; omega))
          have CH_14 : Ch (No) w w14 := CH_13.then c14 (by intro q h1 h2; rcases h2 with h2 | h2 <;> first | exact h2 | (exfalso; omega) | omega)
          exact ⟨(by omega), (by rw [take_flat _ _ hj, ← List.append_assoc, ← ho2, hz]; simp), (by rw [List.length_append]; omega), (by omega), (by omega), wr14, sb_14, st_14, b8_14, fl_14, CH_14⟩
        · skip
          refine VC.exit ?_
          refine VQ.then_exit ?_
          refine VQ.then_exit ?_
          refine VQ.block_exit ?_
          refine VQ.block_normal ?_
          refine VQ.then_code ?_
          refine VC.region ?_
          refine VO.mv (Rn.add rfl rfl (by rw [IntKind.wrap_i64]; omega)) rfl rfl rfl ?_
          refine VO.mv (Rn.move rfl) rfl rfl rfl ?_
          refine VO.nil ?_
          refine VQ.round (i + 1, o2, r3) (by (dsimp only; omega)) ?_ ⟨rfl, rfl, rfl, rfl, trivial⟩
          exact ⟨(by omega), (by have e : op = s.op.toNat := (by omega); rw [take_flat _ _ hs, ← List.append_assoc, ← ho, ho2, List.take_of_length_le (by omega), e, encS, List.append_assoc]), (by omega), (by omega), (by omega), wr_13, sb_13, st_13, CH_13⟩
      · skip
        refine VC.exit ?_
        refine VQ.then_exit ?_
        refine VQ.then_exit ?_
        refine VQ.block_exit ?_
        refine VQ.then_code ?_
        refine VC.seq ?_
        have hoe : o = encB b := by rw [ho, List.take_of_length_le (by omega)]; rfl
        clear ho; subst hoe
        refine VC.region ?_
        refine VO.mv (Rn.move rfl) rfl rfl rfl ?_
        refine VO.wk (Wk.call Tryz.call33 rfl (pack_Out qw r2 (encB b) _ wr_7 (by omega))) rfl rfl rfl ?_
        rintro _ w15 ⟨ro15, oA15, oc15, rfl, out15, yo15, c15⟩
        have lo15 := out15.lt
        have z15 := c15.size
        refine VO.mv (Rn.assign rfl) rfl rfl rfl ?_
        refine VO.mv (Rn.assign rfl) rfl rfl rfl ?_
        refine VO.nil ?_
        refine VQ.then_code ?_
        refine VC.ret ?_
        refine VQ.ret2 rfl rfl rfl ?_
        refine Ret.mk ?_
        have CH_15 := CH_7.and c15
        exact ⟨_, _, _, rfl, out15, by omega, by omega, CH_15⟩

end Go.Tm
namespace Go.Tm
open Go.RowKit Go.Proofs
theorem strV_oB (s : ByteArray) : strV s.data.toList = .string s := by
  unfold strV; congr
theorem pack_TextB (q r : Nat) (bs : List UInt8) (s : ByteArray) (hx : s.size ≤ 1000000000000) (w : World) (wr : WrR w q r bs) (hl : bs.length ≤ 1000000000000) :
    Calls Tryz.prog 31 #[.pointer (some ⟨q, 0, none⟩), .string s] w (Ret fun v w' => ∃ r', v = .tuple #[] ∧ WrR w' q r' (bs ++ uintB s.size ++ s.data.toList) ∧ (r' = r ∨ w.heap.size < r') ∧ Ch (QR q r) w w') := by
  have h := pack_Text q r bs s.data.toList (by simpa using hx) w wr hl
  rw [strV_oB] at h
  have e : s.data.toList.length = s.size := by simp
  rw [e] at h
  exact h
def encP (P : Pln) : List UInt8 := uintB P.t.size ++ P.t.data.toList ++ encB P.b
structure okP (P : Pln) : Prop where
  b : okB P.b
  t : P.t.size ≤ 1000000

set_option maxRecDepth 100000 in
theorem inf5w35 : Inf Tryz.prog 5 (.int .u8 0) 1 1 := ⟨Tryz.t5, Tryz.type5, rfl, rfl, rfl⟩
set_option maxRecDepth 100000 in
theorem plan_Encode (lo hi p : Nat) (P : Pln) (ok : okP P) (w : World) (pl : PlnR lo hi w p P) (hh : hi ≤ w.heap.size) (st : StT w) (hG : 23 ≤ w.heap.size) :
    Calls Tryz.prog 32 #[.pointer (some ⟨p, 0, none⟩)] w (Ret (fun v w' => ∃ r A c, v = .slice A (encP P).length c ∧ Ow w' r 5 1 A (encP P).length c (Lib.byteCells (encP P)) ∧ (r = 0 ∨ w.heap.size < r) ∧ (encP P).length ≤ 10000000 ∧ Ch No w w')) := by
  obtain ⟨oA, oC, sA, sC, bp, pk, ps⟩ := id pl.ex; have hpa := pl.at_
  have hts := ok.t
  have hut := uintB_len (n := P.t.size) (by omega)
  have hdl : P.t.data.toList.length = P.t.size := by simp
  refine calls_of_VC (args := [.pointer (some ⟨p, 0, none⟩)]) Tryz.func32 rfl Tryz.ntmps32 rfl ?_
  refine VC.seq ?_
  refine VC.region ?_
  refine VO.mv (Rn.assign rfl) rfl rfl rfl ?_
  refine VO.nil ?_
  refine VQ.then_code ?_
  refine VC.seq ?_
  refine VC.region ?_
  refine VO.wk (Wk.call Tryz.call29 rfl (pack_New _)) rfl rfl rfl ?_
  rintro _ w1 ⟨qw, rfl, wr1, yqw, c1⟩
  have lw1 := wr1.lt
  have z1 := c1.size
  refine VO.mv (Rn.assign rfl) rfl rfl rfl ?_
  refine VO.nil ?_
  refine VQ.then_code ?_
  refine VC.seq ?_
  refine VC.region ?_
  refine VO.mv (Rn.move rfl) rfl rfl rfl ?_
  refine VO.mv (Rn.move rfl) rfl rfl rfl ?_
  refine VO.mv (Rn.nilCheck rfl) rfl rfl rfl ?_
  refine VO.mv (Rn.field Tryz.underlying80 rfl Tryz.sizeOf9 rfl rfl rfl) rfl rfl rfl ?_
  have bp_1 := bp.keep c1
  refine VO.mv (Rn.load Tryz.isAgg9 rfl (bp_1.cell rfl)) rfl rfl rfl ?_
  refine VO.wk (Wk.call Tryz.call31 rfl (pack_TextB qw 0 ([]) (P.t) (by omega) _ wr1 (by first | omega | (simp; done) | (simp; omega)))) rfl rfl rfl ?_
  rintro _ w2 ⟨rw2, rfl, wr2, yw2, c2⟩
  have lw2 := wr2.lt
  have z2 := c2.size
  refine VO.nil ?_
  refine VQ.then_code ?_
  refine VC.seq ?_
  refine VC.region ?_
  refine VO.mv (Rn.move rfl) rfl rfl rfl ?_
  refine VO.mv (Rn.nilCheck rfl) rfl rfl rfl ?_
  refine VO.mv (Rn.field Tryz.underlying80 rfl Tryz.sizeOf78 rfl rfl rfl) rfl rfl rfl ?_
  have bp_2 := bp_1.to c2 (by first | exact id | omega)
  refine VO.mv (Rn.loads Tryz.isAgg78 Tryz.sizeOf78 rfl rfl (bp_2.part 5 rfl)) rfl rfl rfl ?_
  have st_1 := st.keep c1
  have st_2 := st_1.to c2 (by first | exact fun _ _ _ _ => id | (intro q h1 h2 hx h3; omega))
  have ps_1 := ps.keep c1
  have ps_2 := ps_1.to c2 (by first | exact fun _ _ _ _ => id | (intro q h1 h2 hx h3; have := h2.2; omega))
  refine VO.wk (Wk.call Tryz.call46 rfl (steps_Encode P.b ok.b _ sA sC _ st_2 ps_2 (fun y hy => by have := hy.2; omega) (by omega))) rfl rfl rfl ?_
  rintro _ w3 ⟨re, eA, ec, rfl, en3, yre, hel, c3⟩
  have len3 := en3.lt
  have z3 := c3.size
  refine VO.mv (Rn.move rfl) rfl rfl rfl ?_
  refine VO.mv (Rn.extract rfl rfl) rfl rfl rfl ?_
  refine VO.mv (Rn.extract rfl rfl) rfl rfl rfl ?_
  refine VO.mv (Rn.assign rfl) rfl rfl rfl ?_
  refine VO.mv (Rn.assign rfl) rfl rfl rfl ?_
  refine VO.nil ?_
  refine VQ.then_code ?_
  refine VC.seq ?_
  refine VC.region ?_
  refine VO.mv (Rn.move rfl) rfl rfl rfl ?_
  have wr_3 := wr2.keep c3
  refine VO.wk (Wk.call Tryz.call33 rfl (pack_Out qw rw2 ([] ++ uintB P.t.size ++ P.t.data.toList) _ wr_3 (by simp; omega))) rfl rfl rfl ?_
  rintro _ w4 ⟨ro4, oA4, oc4, rfl, out4, yo4, c4⟩
  have lo4 := out4.lt
  have z4 := c4.size
  refine VO.mv (Rn.move rfl) rfl rfl rfl ?_
  have en_4 := en3.keep c4
  refine VO.wk (Wk.append (S := _) Tryz.underlying46 inf5w35 rfl (by decide) rfl rfl out4 en_4.sl (byte_one _) (fun _ h => en_4.nilc h) (by simp; omega) (by simp only [maxLen]; simp; omega)) rfl rfl rfl ?_
  rintro _ w5 ⟨r5, A5, k5, rfl, o5, c5, q5⟩
  have z5 := c5.size
  have y5 := o5.lt
  refine VO.mv (Rn.assign rfl) rfl rfl rfl ?_
  refine VO.nil ?_
  refine VQ.then_code ?_
  refine VC.ret ?_
  refine VQ.ret1 rfl rfl ?_
  refine Ret.mk ?_
  have yr := o5.lt
  have hpl : (encP P).length = (uintB P.t.size).length + P.t.size + (encB P.b).length := by rw [encP, List.length_append, List.length_append, hdl]
  have CH_1 := (Ch.refl (No) w).and c1
  have CH_2 : Ch (No) w w2 := CH_1.then c2 (by intro q h1 h2; rcases h2 with h2 | h2 <;> first | exact h2 | (exfalso; omega) | omega)
  have CH_4 := CH_2.and (c3.trans c4)
  have CH_5 : Ch (No) w w5 := CH_4.then c5 (by intro q h1 h2; rcases h2 with h2 | h2 <;> first | exact h2 | (exfalso; omega) | omega)
  exact ⟨r5, A5, k5, by rw [hpl]; simp, (o5).to' (by rw [hpl]; simp) (by simp [encP, Lib.byteCells]), by omega, by omega, CH_5⟩

end Go.Tm
namespace Go.Tm
open Go.RowKit Go.Proofs
theorem encP_pos (P : Pln) : 0 < (encP P).length := by
  have := uintB_ne P.t.size
  rw [encP, List.length_append, List.length_append]; omega
/-- The plans that a store keeps, each apart from the store's own blocks; what each tells as bytes. -/
structure PlsR (B : Nat) (w : World) (q mb r : Nat) (m : List (Nm × Value)) (pe : Nm → List UInt8) : Prop where
  ex : ∀ x v, mfind m x = some v → ∃ lo hi p P, v = .pointer (some ⟨p, 0, none⟩) ∧ PlnR lo hi w p P ∧ hi ≤ B ∧ okP P ∧ encP P = pe x ∧ (q < lo ∨ hi ≤ q) ∧ (mb < lo ∨ hi ≤ mb) ∧ (r ≤ lo ∨ hi < r)
theorem PlsR.to {D : Nat → Prop} {B : Nat} {w w' : World} {q mb r : Nat} {m : List (Nm × Value)} {pe : Nm → List UInt8} (h : PlsR B w q mb r m pe) (c : Ch D w w') (hd : ∀ y, y < w.heap.size → (y < B ∧ ¬ (y = q ∨ y = mb ∨ r = y + 1)) → y = y → ¬ D y) : PlsR B w' q mb r m pe :=
  ⟨fun x v hx => by
    obtain ⟨lo, hi, p, P, h1, h2, h3, h4, h5, h6, h7, h8⟩ := h.ex x v hx
    exact ⟨lo, hi, p, P, h1, h2.to c (fun y hy hI _ => hd y hy ⟨by have := hI.2; omega, by have := hI.1; have := hI.2; omega⟩ rfl), h3, h4, h5, h6, h7, h8⟩⟩
theorem PlsR.keep {B : Nat} {w w' : World} {q mb r : Nat} {m : List (Nm × Value)} {pe : Nm → List UInt8} (h : PlsR B w q mb r m pe) (c : Ch No w w') : PlsR B w' q mb r m pe := h.to c fun _ _ _ _ => id
/-- What Save writes of one name. -/
def entB (pe : Nm → List UInt8) (x : Nm) : List UInt8 := uintB x.length ++ x ++ (uintB (pe x).length ++ pe x)
def saveB (mo : Nat) (L : List Nm) (pe : Nm → List UInt8) : List UInt8 := uintB mo ++ uintB L.length ++ L.flatMap (entB pe)


set_option maxHeartbeats 4000000 in
set_option maxRecDepth 100000 in
theorem st_Save (mo : Nat) (hmo : mo ≤ 64) (q mb r B : Nat) (L : List Nm) (m : List (Nm × Value)) (pe : Nm → List UInt8) (w : World) (sr : StR w q mb r 0 mo L m) (hL : L.length ≤ 1000) (hnm : ∀ x ∈ L, x.length ≤ 64) (dm : DomI L m) (pls : PlsR B w q mb r m pe) (hB : B ≤ w.heap.size) (st : StT w) (hG : 23 ≤ q) (hGm : 23 ≤ mb) (hGr : r = 0 ∨ 23 < r) :
    Calls Tryz.prog 14 #[.pointer (some ⟨q, 0, none⟩)] w (Ret (fun v w' => ∃ r' A' c', v = .slice A' (saveB mo L pe).length c' ∧ Ow w' r' 5 1 A' (saveB mo L pe).length c' (Lib.byteCells (saveB mo L pe)) ∧ (r' = 0 ∨ w.heap.size < r') ∧ (saveB mo L pe).length ≤ 100000000000 ∧ StR w' q mb r 0 mo L m ∧ Ch (QS q mb r) w w')) := by
  obtain ⟨A, c, bq, row, mp⟩ := id sr
  have ls := sr.lt; have lrow := row.lt
  have hum := uintB_len (n := mo) (by omega)
  have hul := uintB_len (n := L.length) (by omega)
  refine calls_of_VCD (args := [.pointer (some ⟨q, 0, none⟩)]) Tryz.func14 rfl Tryz.ntmps14 rfl ?_
  refine VC.seq ?_
  refine VC.region ?_
  refine VO.mv (Rn.assign rfl) rfl rfl rfl ?_
  refine VO.nil ?_
  refine VQ.then_code ?_
  refine VC.seq ?_
  refine VC.region ?_
  refine VO.mv (Rn.move rfl) rfl rfl rfl ?_
  refine VO.mv (Rn.nilCheck rfl) rfl rfl rfl ?_
  refine VO.mv (Rn.field Tryz.underlying62 rfl Tryz.sizeOf60 rfl rfl rfl) rfl rfl rfl ?_
  refine VO.wk (Wk.call Tryz.call23 rfl (mutex_lock muLib bq rfl)) rfl rfl rfl ?_
  rintro _ w1 ⟨rfl, Z1⟩
  have c1 := Z1.ch
  have bq_1 := Bk.put Z1
  have z1 := c1.size
  refine VO.nil ?_
  refine VQ.then_code ?_
  refine VC.seq ?_
  refine VC.region ?_
  refine VO.mv (Rn.move rfl) rfl rfl rfl ?_
  refine VO.mv (Rn.nilCheck rfl) rfl rfl rfl ?_
  refine VO.mv (Rn.field Tryz.underlying62 rfl Tryz.sizeOf60 rfl rfl rfl) rfl rfl rfl ?_
  refine VO.defer rfl ?_
  refine VO.nil ?_
  refine VQ.then_code ?_
  refine VC.seq ?_
  refine VC.region ?_
  refine VO.wk (Wk.call Tryz.call29 rfl (pack_New _)) rfl rfl rfl ?_
  rintro _ w2 ⟨qw, rfl, wr2, yqw, c2⟩
  have lw2 := wr2.lt
  have z2 := c2.size
  refine VO.mv (Rn.assign rfl) rfl rfl rfl ?_
  refine VO.nil ?_
  refine VQ.then_code ?_
  refine VC.seq ?_
  refine VC.region ?_
  refine VO.mv (Rn.move rfl) rfl rfl rfl ?_
  refine VO.mv (Rn.move rfl) rfl rfl rfl ?_
  refine VO.mv (Rn.nilCheck rfl) rfl rfl rfl ?_
  refine VO.mv (Rn.field Tryz.underlying62 rfl Tryz.sizeOf3 rfl rfl rfl) rfl rfl rfl ?_
  have bq_2 := bq_1.keep c2
  refine VO.mv (Rn.load Tryz.isAgg3 rfl (bq_2.cell rfl)) rfl rfl rfl ?_
  refine VO.mv (Rn.convTo Tryz.underlying3 Tryz.underlying75 rfl (r := ((mo : Nat) : Int)) (by rw [IntKind.wrap_u64]; omega)) rfl rfl rfl ?_
  refine VO.wk (Wk.call Tryz.call30 rfl (pack_Uint qw 0 ([]) (mo) (by omega) _ wr2 (by first | omega | (simp; done) | (simp; omega)))) rfl rfl rfl ?_
  rintro _ w3 ⟨rw3, rfl, wr3, yw3, c3⟩
  have lw3 := wr3.lt
  have z3 := c3.size
  refine VO.nil ?_
  refine VQ.then_code ?_
  refine VC.seq ?_
  refine VC.region ?_
  refine VO.mv (Rn.move rfl) rfl rfl rfl ?_
  refine VO.mv (Rn.move rfl) rfl rfl rfl ?_
  refine VO.mv (Rn.nilCheck rfl) rfl rfl rfl ?_
  refine VO.mv (Rn.field Tryz.underlying62 rfl Tryz.sizeOf30 rfl rfl rfl) rfl rfl rfl ?_
  have bq_3 := bq_2.to c3 (by first | exact id | omega)
  refine VO.mv (Rn.load Tryz.isAgg30 rfl (bq_3.cell rfl)) rfl rfl rfl ?_
  refine VO.mv (Rn.len Tryz.underlying30 rfl) rfl rfl rfl ?_
  refine VO.mv (Rn.convTo Tryz.underlying3 Tryz.underlying75 rfl (r := ((L.length : Nat) : Int)) (by rw [IntKind.wrap_u64]; omega)) rfl rfl rfl ?_
  refine VO.wk (Wk.call Tryz.call30 rfl (pack_Uint qw rw3 ([] ++ uintB mo) (L.length) (by omega) _ wr3 (by first | omega | (simp; done) | (simp; omega)))) rfl rfl rfl ?_
  rintro _ w4 ⟨rw4, rfl, wr4, yw4, c4⟩
  have lw4 := wr4.lt
  have z4 := c4.size
  refine VO.nil ?_
  refine VQ.then_code ?_
  refine VC.seq ?_
  refine VC.seq ?_
  refine VC.region ?_
  refine VO.mv (Rn.move rfl) rfl rfl rfl ?_
  refine VO.mv (Rn.nilCheck rfl) rfl rfl rfl ?_
  refine VO.mv (Rn.field Tryz.underlying62 rfl Tryz.sizeOf30 rfl rfl rfl) rfl rfl rfl ?_
  have bq_4 := bq_3.to c4 (by first | exact id | omega)
  refine VO.mv (Rn.load Tryz.isAgg30 rfl (bq_4.cell rfl)) rfl rfl rfl ?_
  refine VO.mv (Rn.len Tryz.underlying30 rfl) rfl rfl rfl ?_
  refine VO.mv (Rn.move rfl) rfl rfl rfl ?_
  refine VO.nil ?_
  refine VQ.then_code ?_
  refine VC.block ?_
  have row_1 := row.to c1 (by first | exact fun _ _ _ _ => id | (intro q h1 h2 hx h3; omega))
  have row_2 := row_1.keep c2
  have row_3 := row_2.to c3 (by first | exact fun _ _ _ _ => id | (intro q h1 h2 hx h3; omega))
  have row_4 := row_3.to c4 (by first | exact fun _ _ _ _ => id | (intro q h1 h2 hx h3; omega))
  have mp_1 := mp.to c1 (by first | exact id | omega)
  have mp_2 := mp_1.keep c2
  have mp_3 := mp_2.to c3 (by first | exact id | omega)
  have mp_4 := mp_3.to c4 (by first | exact id | omega)
  have pls_1 := pls.to c1 (by first | exact fun _ _ _ _ => id | (intro q h1 h2 hx h3; omega))
  have pls_2 := pls_1.keep c2
  have pls_3 := pls_2.to c3 (by first | exact fun _ _ _ _ => id | (intro q h1 h2 hx h3; omega))
  have pls_4 := pls_3.to c4 (by first | exact fun _ _ _ _ => id | (intro q h1 h2 hx h3; omega))
  have st_1 := st.to c1 (by first | exact fun _ _ _ _ => id | (intro q h1 h2 hx h3; omega))
  have st_2 := st_1.keep c2
  have st_3 := st_2.to c3 (by first | exact fun _ _ _ _ => id | (intro q h1 h2 hx h3; omega))
  have st_4 := st_3.to c4 (by first | exact fun _ _ _ _ => id | (intro q h1 h2 hx h3; omega))
  have CH_1 : Ch (QS q mb r) w w1 := (Ch.refl (QS q mb r) w).then c1 (by intro q h1 h2; rcases h2 with h2 | h2 <;> first | exact h2 | (exfalso; omega) | omega)
  have CH_2 := CH_1.and c2
  have CH_3 : Ch (QS q mb r) w w3 := CH_2.then c3 (by intro q h1 h2; rcases h2 with h2 | h2 <;> first | exact h2 | (exfalso; omega) | omega)
  have CH_4 : Ch (QS q mb r) w w4 := CH_3.then c4 (by intro q h1 h2; rcases h2 with h2 | h2 <;> first | exact h2 | (exfalso; omega) | omega)
  refine VC.loopS (σ := Nat × List UInt8 × Nat) (fun (i, o, r2) => [(0, .pointer (some ⟨q, 0, none⟩)), (3, .pointer (some ⟨qw, 0, none⟩)), (32, .slice A L.length c), (33, .int .i64 L.length), (34, .int .i64 i)]) (fun (i, o, r2) w' => i ≤ L.length ∧ o = uintB mo ++ uintB L.length ++ (L.take i).flatMap (entB pe) ∧ o.length ≤ 50 + 20000000 * i ∧ (r2 = 0 ∨ w.heap.size < r2) ∧ w4.heap.size ≤ w'.heap.size ∧ WrR w' qw r2 o ∧ Bk w' q (stoV 1 mo mb A L.length c) 62 ∧ Ow w' r 9 1 A L.length c (L.map strV) ∧ MpG strV w' mb m ∧ PlsR B w' q mb r m pe ∧ StT w' ∧ Ch (QS q mb r) w w') (fun (i, o, r2) => L.length - i) (0, uintB mo ++ uintB L.length, rw4) ?_ ⟨rfl, rfl, rfl, rfl, rfl, trivial⟩ ?_
  · exact ⟨(by omega), (by simp), (by rw [List.length_append]; omega), (by omega), (Nat.le_refl _), wr4, bq_4, row_4, mp_4, pls_4, st_4, CH_4⟩
  rintro ⟨i, o, r2⟩ w5 ⟨hi, ho, hol, hr2, hsz5, wr_5, bq_5, row_5, mp_5, pls_5, st_5, CH_5⟩
  show VC _ _ _ _ [(0, .pointer (some ⟨q, 0, none⟩)), (3, .pointer (some ⟨qw, 0, none⟩)), (32, .slice A L.length c), (33, .int .i64 L.length), (34, .int .i64 i)] _
  have lwr := wr_5.lt
  refine VC.seq ?_
  refine VC.region ?_
  refine VO.mv (Rn.lss rfl rfl) rfl rfl rfl ?_
  refine VO.nil ?_
  refine VQ.then_code ?_
  refine VC.seq ?_
  refine VC.cond_if rfl (fun hc1 => ?_) (fun hc1 => ?_)
  · skip
    refine VC.skip ?_
    refine VQ.then_code ?_
    refine VC.seq ?_
    refine VC.block ?_
    refine VC.seq ?_
    obtain ⟨x, hx⟩ : ∃ x, L[i]? = some x := ⟨_, List.getElem?_eq_getElem (by omega)⟩
    have hxm := List.mem_of_getElem? hx
    have hxl := hnm x hxm
    have hux := uintB_len (n := x.length) (by omega)
    refine VC.region ?_
    refine VO.mv (Rn.indexS Tryz.underlying30 Tryz.sizeOf9 rfl rfl (row_5.sl.ne (by omega)) (by omega) (by omega)) rfl rfl rfl ?_
    refine VO.mv (Rn.load Tryz.isAgg9 rfl (nm_get row_5.sl hx)) rfl rfl rfl ?_
    refine VO.mv (Rn.assign rfl) rfl rfl rfl ?_
    refine VO.nil ?_
    refine VQ.then_code ?_
    refine VC.seq ?_
    refine VC.region ?_
    refine VO.mv (Rn.move rfl) rfl rfl rfl ?_
    refine VO.mv (Rn.move rfl) rfl rfl rfl ?_
    refine VO.wk (Wk.call Tryz.call31 rfl (pack_Text qw r2 (o) (x) (by omega) _ wr_5 (by first | omega | (simp; done) | (simp; omega)))) rfl rfl rfl ?_
    rintro _ w6 ⟨rw6, rfl, wr6, yw6, c6⟩
    have lw6 := wr6.lt
    have z6 := c6.size
    refine VO.nil ?_
    refine VQ.then_code ?_
    obtain ⟨pv, hm⟩ := Option.isSome_iff_exists.1 ((dm.dom x).2 hxm)
    have pls_6 := pls_5.to c6 (by first | exact fun _ _ _ _ => id | (intro q h1 h2 hx h3; omega))
    obtain ⟨lo, hi2, p, P, hpv, pl, hh2, okp, hpe, _⟩ := pls_6.ex x pv hm
    subst hpv
    have hep := encP_pos P
    have huP := uintB_len (n := (encP P).length)
    refine VC.region ?_
    refine VO.mv (Rn.move rfl) rfl rfl rfl ?_
    refine VO.mv (Rn.move rfl) rfl rfl rfl ?_
    refine VO.mv (Rn.nilCheck rfl) rfl rfl rfl ?_
    refine VO.mv (Rn.field Tryz.underlying62 rfl Tryz.sizeOf53 rfl rfl rfl) rfl rfl rfl ?_
    have bq_6 := bq_5.to c6 (by first | exact id | omega)
    refine VO.mv (Rn.load Tryz.isAgg53 rfl (bq_6.cell rfl)) rfl rfl rfl ?_
    refine VO.mv (Rn.move rfl) rfl rfl rfl ?_
    have mp_6 := mp_5.to c6 (by first | exact id | omega)
    refine VO.mv (Rn.lookup1_some Tryz.underlying53 (KeyK.str Tryz.underlying9) rfl rfl mp_6 hm) rfl rfl rfl ?_
    have st_6 := st_5.to c6 (by first | exact fun _ _ _ _ => id | (intro q h1 h2 hx h3; omega))
    refine VO.wk (Wk.call Tryz.call32 rfl (plan_Encode lo hi2 p P okp _ pl (by omega) st_6 (by omega))) rfl rfl rfl ?_
    rintro _ w7 ⟨re, eA, ec, rfl, en7, yre, hel, c7⟩
    have len7 := en7.lt
    have huQ := huP (by omega)
    have z7 := c7.size
    refine VO.mv (Rn.bytes_string Tryz.underlying46 Tryz.underlying5 Tryz.underlying9 rfl hep en7.sl) rfl rfl rfl ?_
    have wr_7 := wr6.keep c7
    refine VO.wk (Wk.call Tryz.call31 rfl (pack_Text qw rw6 (o ++ uintB x.length ++ x) (encP P) (by omega) _ wr_7 (by first | omega | (simp; done) | (simp; omega)))) rfl rfl rfl ?_
    rintro _ w8 ⟨rw8, rfl, wr8, yw8, c8⟩
    have lw8 := wr8.lt
    have z8 := c8.size
    refine VO.nil ?_
    refine VQ.block_normal ?_
    refine VQ.then_code ?_
    refine VC.region ?_
    refine VO.mv (Rn.add rfl rfl (by rw [IntKind.wrap_i64]; omega)) rfl rfl rfl ?_
    refine VO.mv (Rn.move rfl) rfl rfl rfl ?_
    refine VO.nil ?_
    refine VQ.round (i + 1, o ++ uintB x.length ++ x ++ uintB (encP P).length ++ encP P, rw8) (by (dsimp only; omega)) ?_ ⟨rfl, rfl, rfl, rfl, rfl, trivial⟩
    have bq_7 := bq_6.keep c7
    have bq_8 := bq_7.to c8 (by first | exact id | omega)
    have row_6 := row_5.to c6 (by first | exact fun _ _ _ _ => id | (intro q h1 h2 hx h3; omega))
    have row_7 := row_6.keep c7
    have row_8 := row_7.to c8 (by first | exact fun _ _ _ _ => id | (intro q h1 h2 hx h3; omega))
    have mp_7 := mp_6.keep c7
    have mp_8 := mp_7.to c8 (by first | exact id | omega)
    have pls_7 := pls_6.keep c7
    have pls_8 := pls_7.to c8 (by first | exact fun _ _ _ _ => id | (intro q h1 h2 hx h3; omega))
    have st_7 := st_6.keep c7
    have st_8 := st_7.to c8 (by first | exact fun _ _ _ _ => id | (intro q h1 h2 hx h3; omega))
    have CH_6 : Ch (QS q mb r) w w6 := CH_5.then c6 (by intro q h1 h2; rcases h2 with h2 | h2 <;> first | exact h2 | (exfalso; omega) | omega)
    have CH_7 := CH_6.and c7
    have CH_8 : Ch (QS q mb r) w w8 := CH_7.then c8 (by intro q h1 h2; rcases h2 with h2 | h2 <;> first | exact h2 | (exfalso; omega) | omega)
    exact ⟨(by omega), (by rw [take_flat _ _ hx, ← List.append_assoc, ← ho, entB, ← hpe]; simp only [List.append_assoc]), (by simp only [List.length_append]; omega), (by omega), (by omega), wr8, bq_8, row_8, mp_8, pls_8, st_8, CH_8⟩
  · skip
    refine VC.exit ?_
    refine VQ.then_exit ?_
    refine VQ.then_exit ?_
    refine VQ.block_exit ?_
    refine VQ.then_code ?_
    refine VC.seq ?_
    have hoe : o = saveB mo L pe := by rw [ho, List.take_of_length_le (by omega)]; rfl
    clear ho; subst hoe
    refine VC.region ?_
    refine VO.mv (Rn.move rfl) rfl rfl rfl ?_
    refine VO.wk (Wk.call Tryz.call33 rfl (pack_Out qw r2 (saveB mo L pe) _ wr_5 (by omega))) rfl rfl rfl ?_
    rintro _ w9 ⟨ro9, oA9, oc9, rfl, out9, yo9, c9⟩
    have lo9 := out9.lt
    have z9 := c9.size
    refine VO.mv (Rn.assign rfl) rfl rfl rfl ?_
    refine VO.nil ?_
    refine VQ.then_code ?_
    refine VC.ret ?_
    have bq_9 := bq_5.keep c9
    refine VQ.unlockD muLib bq_9 rfl ?_
    intro w10 Z10
    have c10 := Z10.ch; have z10 := Z10.size
    have bq_10 := Bk.put Z10
    refine VQ.toD ?_
    refine VQ.ret1 rfl rfl ?_
    refine Ret.mk ?_
    have out_10 := out9.to c10 (by first | exact fun _ _ _ _ => id | (intro q h1 h2 hx h3; omega))
    have row_9 := row_5.keep c9
    have row_10 := row_9.to c10 (by first | exact fun _ _ _ _ => id | (intro q h1 h2 hx h3; omega))
    have mp_9 := mp_5.keep c9
    have mp_10 := mp_9.to c10 (by first | exact id | omega)
    have CH_9 := CH_5.and c9
    have CH_10 : Ch (QS q mb r) w w10 := CH_9.then c10 (by intro q h1 h2; rcases h2 with h2 | h2 <;> first | exact h2 | (exfalso; omega) | omega)
    exact ⟨_, _, _, rfl, out_10, by omega, by omega, ⟨_, _, bq_10, row_10, mp_10⟩, CH_10⟩

end Go.Tm
namespace Go.Tm
def okBb (b : Bld) : Bool := decide (b.steps.length ≤ 65536) && b.hd.all (fun x => decide (0 ≤ x) && decide (x ≤ 262144)) && b.steps.all formM
theorem okB_of {b : Bld} (h : okBb b = true) : okB b := by
  unfold okBb at h
  simp only [Bool.and_eq_true, decide_eq_true_eq, List.all_eq_true] at h
  exact ⟨h.1.1, h.1.2, h.2⟩
def chkE (n : Int) : Bool := match bestF PU 30 n with
  | some r => okBb (buildM r.1)
  | none => false
set_option maxRecDepth 100000 in
theorem chkE24 : ((List.range 24).all fun k : Nat => chkE ((k : Int) + 1)) = true := by kernel_rfl
theorem okB24 {n : Int} (h1 : 1 ≤ n) (h2 : n ≤ 24) {r : Ord × Int} (hr : Best PU n r) : okB (buildM r.1) := by
  have h := List.all_eq_true.1 chkE24 (n - 1).toNat (by simp; omega)
  rw [show (((n - 1).toNat : Nat) : Int) + 1 = n by omega] at h
  unfold chkE at h
  cases hb : bestF PU 30 n with
  | none => rw [hb] at h; cases h
  | some r' =>
    rw [hb] at h
    have : r = r' := hr.unique ⟨30, hb⟩
    subst this
    exact okB_of h
end Go.Tm
