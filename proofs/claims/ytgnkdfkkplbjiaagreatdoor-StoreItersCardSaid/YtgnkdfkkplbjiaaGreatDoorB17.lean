/- Lemmas of this claim, joined by program. Walks of functions: going over a store's names. Conditions: each lemma names its own. -/
import Derived.Test.YtgnkdfkkplbjiaaGreatDoorB16
set_option linter.all false
namespace Go.Tm
open Go.RowKit Go.Proofs
theorem StO.up {B B' : Nat} {w : World} {q mb r mo : Nat} {L : List Nm} {m : List (Nm × Value)} {pe : Nm → List UInt8} (h : StO B w q mb r mo L m pe) (hB : B ≤ B') : StO B' w q mb r mo L m pe :=
  ⟨h.sr, h.dm, ⟨fun x v hx => by
    obtain ⟨lo, hi, p, P, h1, h2, h3, h4, h5, h6, h7, h8⟩ := h.pls.ex x v hx
    exact ⟨lo, hi, p, P, h1, h2, by omega, h4, h5, h6, h7, h8⟩⟩, h.len, h.nm⟩
theorem StO.new {w : World} {q mb mo : Nat} (h : StR w q mb 0 0 mo [] []) : StO w.heap.size w q mb 0 mo [] [] (fun _ => []) :=
  ⟨h, DomI.nil, ⟨fun x v h => by simp [mfind] at h⟩, by simp, fun x h => by simp at h⟩
theorem so_Names (B mo q mb r : Nat) (L : List Nm) (m : List (Nm × Value)) (pe : Nm → List UInt8) (w : World) (so : StO B w q mb r mo L m pe) (hmo : mo ≤ 64) :
    Calls Tryz.prog 13 #[.pointer (some ⟨q, 0, none⟩)] w (Ret fun v w' => ∃ p rc A c, v = .func (.func 28) #[] #[.pointer (some ⟨p, 0, none⟩)] ∧ Bk w' p #[.slice A L.length c] 30 ∧ Ow w' rc 9 1 A L.length c (L.map strV) ∧ w.heap.size ≤ p ∧ (rc = 0 ∨ w.heap.size < rc) ∧ rc ≠ p + 1 ∧ StO B w' q mb r mo L m pe ∧ Ch (QS q mb r) w w') := by
  have hll := so.len
  refine (st_Names mo q mb r L m w so.sr (by omega)).mono ?_
  rintro e w' ⟨v, rfl, p, rc, A, c, rfl, h1, h2, h3, h4, h5, h6, h7⟩
  exact ⟨_, rfl, p, rc, A, c, rfl, h1, h2, h3, h4, h5, so.re h6 h7, h7⟩
theorem saveB_pos (mo : Nat) (L : List Nm) (pe : Nm → List UInt8) : 0 < (saveB mo L pe).length := by
  have := uintB_ne mo
  rw [saveB, List.length_append, List.length_append]; omega
theorem Wk.storeO {P : Program} {n : Fr} {k : K} {w : World} {ty : TypeId} {pos : String} {aft : Array Edge} {gd : Option (Nat × Bool)} {t e : TypeId} {x y : Operand} {r l c i : Nat} {A : Option Addr} {cs : List Value} {v u : Value} (hz : ∀ w, (sizeOf t).run P w = .ok 1 w) (hx : ev k x = some (.pointer (some ((sAddr A).add (i * 1))))) (hy : ev k y = some v) (hv : v.oneCell' = true) (hvc : v.cells = #[v]) (hown : Ow w r e 1 A l c cs) (hi : cs[i]? = some u) :
    Wk P n k w { dst := none, op := .store t x y, type := ty, pos := pos, after := aft, guard := gd } (fun _ w' => Ow w' r e 1 A l c (cs.set i v) ∧ Ch (At r) w w') := by
  obtain ⟨hlen, hrow⟩ := hown
  have hil := (List.getElem?_eq_some_iff.1 hi).1
  rcases hrow with ⟨_, h0, _, _⟩ | ⟨g, cur, rfl, rfl, hg, hlc, hcm, hsz, htk⟩
  · subst h0; omega
  · have hb : Bk w g cur e := ⟨hg⟩
    have hx' : ev k x = some (.pointer (some ⟨g, i, none⟩)) := by
      rw [hx, Nat.mul_one]
      show some (Value.pointer (some ((⟨g, 0, none⟩ : Addr).add i))) = _
      by_cases h : i = 0
      · subst h; rfl
      · simp [Addr.add, h]
    have hcur : cur[i]? = some u := by
      rw [← htk, List.getElem?_take, if_pos (by omega), Array.getElem?_toList] at hi
      exact hi
    refine (Wk.put hz hx' hy hv hvc hb hcur).mono fun _ w' Z => ?_
    have hb' := Bk.put Z
    refine ⟨⟨by rw [List.length_set]; exact hlen, .inr ⟨g, _, rfl, rfl, hb'.blk, hlc, hcm, by rw [Array.size_setIfInBounds]; exact hsz, by rw [Array.toList_setIfInBounds, List.take_set, htk]⟩⟩, ?_⟩
    exact Z.ch.then (E := At (g + 1)) (Ch.refl No w') (by intro q _ h; rcases h with h | h; exact (by rw [h]); exact h.elim)
theorem xor17 : ∀ y : Fin 256, IntKind.u8.wrap ((BitVec.ofInt 8 (y.1 : Int) ^^^ BitVec.ofInt 8 17).toNat) = ((UInt8.ofNat y.1 ^^^ 17).toNat : Nat) := by decide +kernel
theorem Rn.xor17 {P : Program} {n : Fr} {k : K} {w : World} {d : Option Tmp} {ty : TypeId} {pos : String} {aft : Array Edge} {g : Option (Nat × Bool)} {t t' : TypeId} {x y : Operand} {b : UInt8} (hx : ev k x = some (.int .u8 b.toNat)) (hy : ev k y = some (.int .u8 17)) : Rn P n k w { dst := d, op := .binOp .xor t x y t', type := ty, pos := pos, after := aft, guard := g } (.int .u8 ((b ^^^ 17).toNat : Nat)) :=
  Rn.bin hx hy (fun x y => by
    have h := Go.Tm.xor17 ⟨b.toNat, b.toNat_lt⟩
    simp only [UInt8.ofNat_toNat] at h
    simp only [eqGuard_xor, binOp_xor, Op.intBits]
    rw [← h]; rfl)
theorem byte_get {S : Nat → Prop} {w : World} {A : Option Addr} {l : Nat} {bs : List UInt8} {i : Nat} {y : UInt8} (h : SlR S w A l 1 (Lib.byteCells bs)) (hy : bs[i]? = some y) : w.cell? ((sAddr A).add (i * 1)) = some (.int .u8 y.toNat) := by
  have hl := h.len
  have hi := (List.getElem?_eq_some_iff.1 hy).1
  refine h.one (by simp [Lib.byteCells] at hl; omega) ?_
  simp [Lib.byteCells, hy]
theorem byte_set (bs : List UInt8) (i : Nat) (y : UInt8) : (Lib.byteCells bs).set i (.int .u8 (y.toNat : Nat)) = Lib.byteCells (bs.set i y) := by
  simp [Lib.byteCells, List.map_set]
theorem sameTexts_same (L : List Nm) (S1 S2 : Nat → Prop) (A B : Option Addr) (c d : Nat) (w : World) (s1 : SlR S1 w A L.length 1 (L.map strV)) (s2 : SlR S2 w B L.length 1 (L.map strV)) (hL : L.length ≤ 1000000000) :
    Calls Tryz.prog 15 #[.slice A L.length c, .slice B L.length d] w (Ret fun v w' => v = .bool true ∧ Ch No w w') := by
  refine (sameTexts L L S1 S2 A B c d w s1 s2 hL hL).mono ?_
  rintro e w' ⟨v, rfl, rfl, h3⟩
  exact ⟨_, rfl, by rw [decide_eq_true rfl], h3⟩
theorem last_get {S : Nat → Prop} {w : World} {A : Option Addr} {l N : Nat} {bs : List UInt8} {i : Nat} (h : SlR S w A l 1 (Lib.byteCells bs ++ flat [.int .u8 7])) (hb : bs.length = N) (hi : i = N := by omega) : w.cell? ((sAddr A).add (i * 1)) = some (.int .u8 7) := by
  have hl := h.len
  subst hi
  refine h.one (by simp [Lib.byteCells, flat, Value.cells] at hl; omega) ?_
  rw [List.getElem?_append_right (by simp [Lib.byteCells]; omega)]
  simp [Lib.byteCells, hb, flat, Value.cells]
theorem Rn.geqF {P : Program} {n : Fr} {k : K} {w : World} {d : Option Tmp} {ty : TypeId} {pos : String} {aft : Array Edge} {g : Option (Nat × Bool)} {t t' : TypeId} {x y : Operand} {q : IntKind} {a b : Int} (hx : ev k x = some (.int q a)) (hy : ev k y = some (.int q b)) (h : ¬ b ≤ a) : Rn P n k w { dst := d, op := .binOp .geq t x y t', type := ty, pos := pos, after := aft, guard := g } (.bool false) := by
  have := Rn.geq (P := P) (n := n) (w := w) (d := d) (ty := ty) (pos := pos) (aft := aft) (g := g) (t := t) (t' := t') hx hy
  rwa [decide_eq_false h] at this
theorem gErr {B B' : Nat} {E : Nat → Addr} {w w' : World} (h : ErrT B E w) (g : Gn B' w w') : ErrT B E w' := h.to g fun _ _ _ hc => notC hc
theorem gSt {B' : Nat} {w w' : World} (h : StT w) (g : Gn B' w w') : StT w' := h.to g fun _ _ _ hc => notC hc
theorem gTab {B B' : Nat} {w w' : World} (h : TabB B w) (g : Gn B' w w') : TabB B w' := h.to g fun _ _ _ hc => notC hc
theorem gSl {S : Nat → Prop} {B' l sz : Nat} {A : Option Addr} {cs : List Value} {w w' : World} (h : SlR S w A l sz cs) (g : Gn B' w w') : SlR S w' A l sz cs := h.to g fun _ _ _ hc => notC hc
theorem gSo {B B' : Nat} {w w' : World} {q mb r mo : Nat} {L : List Nm} {m : List (Nm × Value)} {pe : Nm → List UInt8} (h : StO B w q mb r mo L m pe) (g : Gn B' w w') (hm : mb < B') : StO B w' q mb r mo L m pe := by
  obtain ⟨⟨A, k, h1, h2, h3⟩, hd, hp, hl, hn⟩ := h
  refine ⟨⟨A, k, h1.toG g, h2.toG g, h3.to g (fun hD => by have := hD.1; omega)⟩, hd, ⟨fun x v hx => ?_⟩, hl, hn⟩
  obtain ⟨lo, hi, p, P, e1, e2, e3, e4, e5, e6, e7, e8⟩ := hp.ex x v hx
  exact ⟨lo, hi, p, P, e1, e2.to g (fun _ _ _ hc => notC hc), e3, e4, e5, e6, e7, e8⟩
theorem nx_eq {L pre : List Nm} {x y : Nm} (hpre : pre = L.take pre.length) (hy : L[pre.length]? = some y) (hxy : x = y) : pre ++ [x] = L.take (pre ++ [x]).length := by
  subst hxy
  rw [List.length_append, List.length_singleton, List.take_add_one, hy, ← hpre]; rfl
theorem nx_ne {L pre : List Nm} {x y : Nm} (hy : L[pre.length]? = some y) (hxy : ¬ x = y) : pre ++ [x] ≠ L.take (pre ++ [x]).length := by
  intro h
  have := congrArg (fun l => l[pre.length]?) h
  simp [List.getElem?_take, hy] at this
  exact hxy this
theorem StO.isC {B : Nat} {w : World} {q mb r mo : Nat} {L : List Nm} {m : List (Nm × Value)} {pe : Nm → List UInt8} (h : StO B w q mb r mo L m pe) (z : Nat) (hz : r = z + 1) : isC w z := by
  obtain ⟨A, c, _, h2, _⟩ := h.sr.ex
  exact h2.isC z hz
theorem VO.skipU {P : Program} {n : Fr} {ops : Array Oper} {Q : Exit → Act → World → Prop} {k : K} {w : World} {o : Oper} {rest : List Oper} {d j t : Nat} {wt : Bool} (hd : o.dst = some d) (hg : o.guard = some (j, wt)) (hj : (ops[j]?).bind (·.dst) = some t) (hk : kget k t = some undef) (hn : Nat.blt d n.sz = true)
    (h : VO P n ops Q rest ((d, undef) :: k) w) : VO P n ops Q (o :: rest) k w := by
  intro a ha
  unfold wpList
  rw [guardU hg hj hk ha]
  simp only [Bool.false_eq_true, if_false]
  rw [hd]
  exact h _ (ha.put hn _)
structure Fr0 (N r : Nat) : Prop where
  ne : ∀ q, q < N → ¬ (r = q + 1)
structure RO (s r r' : Nat) : Prop where
  or : r' = r ∨ s < r'
theorem RO.back {s r r' q : Nat} (h : RO s r r') (hq : q < s) (e : r' = q + 1) : r = q + 1 := by have := h.or; omega
theorem RO.trans {s s' a b c : Nat} (h : RO s a b) (h' : RO s' b c) (hs : s ≤ s') : RO s a c := ⟨by have := h.or; have := h'.or; omega⟩
structure Ap (a b : Nat) : Prop where
  ne : ∀ q, a = q + 1 → b = q + 1 → False
/-- A store at rest, nothing said of its plans. -/
structure StN (w : World) (q mb r mo : Nat) (L : List Nm) (m : List (Nm × Value)) : Prop where
  sr : StR w q mb r 0 mo L m
  dm : DomI L m
  len : L.length ≤ mo
theorem StO.nn {B : Nat} {w : World} {q mb r mo : Nat} {L : List Nm} {m : List (Nm × Value)} {pe : Nm → List UInt8} (h : StO B w q mb r mo L m pe) : StN w q mb r mo L m := ⟨h.sr, h.dm, h.len⟩
theorem StN.to {D : Nat → Prop} {w w' : World} {q mb r mo : Nat} {L : List Nm} {m : List (Nm × Value)} (h : StN w q mb r mo L m) (c : Ch D w w') (hd : ∀ y, y < w.heap.size → QS q mb r y → y = y → ¬ D y) : StN w' q mb r mo L m := ⟨h.sr.to c hd, h.dm, h.len⟩
theorem StN.keep {w w' : World} {q mb r mo : Nat} {L : List Nm} {m : List (Nm × Value)} (h : StN w q mb r mo L m) (c : Ch No w w') : StN w' q mb r mo L m := h.to c fun _ _ _ _ => id
theorem StN.lt {w : World} {q mb r mo : Nat} {L : List Nm} {m : List (Nm × Value)} (h : StN w q mb r mo L m) : q < w.heap.size ∧ mb < w.heap.size ∧ r ≤ w.heap.size ∧ r ≠ q + 1 ∧ r ≠ mb + 1 ∧ mb ≠ q := h.sr.lt
theorem StN.isC {w : World} {q mb r mo : Nat} {L : List Nm} {m : List (Nm × Value)} (h : StN w q mb r mo L m) (z : Nat) (hz : r = z + 1) : isC w z := by
  obtain ⟨A, c, _, h2, _⟩ := h.sr.ex
  exact h2.isC z hz
theorem gSn {B' : Nat} {w w' : World} {q mb r mo : Nat} {L : List Nm} {m : List (Nm × Value)} (h : StN w q mb r mo L m) (g : Gn B' w w') (hm : mb < B') : StN w' q mb r mo L m := by
  obtain ⟨⟨A, k, h1, h2, h3⟩, hd, hl⟩ := h
  exact ⟨⟨A, k, h1.toG g, h2.toG g, h3.to g (fun hD => by have := hD.1; omega)⟩, hd, hl⟩
theorem sn_Keep (E : Nat → Addr) (B0 p mo q mb r : Nat) (L : List Nm) (m : List (Nm × Value)) (x : Nm) (w : World) (so : StN w q mb r mo L m) (hmo : mo ≤ 100) (er : ErrT B0 E w) :
    Calls Tryz.prog 8 #[.pointer (some ⟨q, 0, none⟩), strV x, .pointer (some ⟨p, 0, none⟩)] w (Ret fun v w' => ∃ r' L' m', StN w' q mb r' mo L' m' ∧ (r' = r ∨ w.heap.size < r') ∧ Ch (QS q mb r) w w') := by
  have hll := so.len
  refine (st_Keep_any E B0 p mo q mb r L m x w so.sr (by omega) er so.dm).mono ?_
  rintro e w' ⟨v, rfl, r', L', m', rfl, hk, dm', sr', hr', ch⟩
  refine ⟨_, rfl, r', _, _, ⟨sr', dm', ?_⟩, hr', ch⟩
  rcases hk with ⟨hx, rfl, rfl⟩ | ⟨hx, rfl, rfl⟩
  · exact keepL_le so.len
  · exact so.len
theorem sn_Get (E : Nat → Addr) (B0 mo q mb r : Nat) (L : List Nm) (m : List (Nm × Value)) (x : Nm) (w : World) (so : StN w q mb r mo L m) (hmo : mo ≤ 100) (er : ErrT B0 E w) (hq : B0 ≤ q) :
    Calls Tryz.prog 9 #[.pointer (some ⟨q, 0, none⟩), strV x] w (Ret fun v w' => ∃ r' L' m', StN w' q mb r' mo L' m' ∧ (r' = r ∨ w.heap.size < r') ∧ Ch (QS q mb r) w w') := by
  have hll := so.len
  refine (st_Get_any E B0 mo q mb r L m x w so.sr (by omega) er hq so.dm).mono ?_
  rintro e w' ⟨v, rfl, r', L', pv, rfl, hk, dm', sr', hr', ch⟩
  refine ⟨_, rfl, r', _, m, ⟨sr', dm', ?_⟩, hr', ch⟩
  rcases hk with ⟨hx, rfl⟩ | ⟨hx, rfl⟩
  · have : (without x L).length < L.length := by
      unfold without
      exact List.length_filter_lt_length_iff_exists.2 ⟨x, hx, by simp⟩
    simp only [List.length_cons]; omega
  · exact so.len
theorem sn_Drop (mo q mb r : Nat) (L : List Nm) (m : List (Nm × Value)) (x : Nm) (w : World) (so : StN w q mb r mo L m) (hmo : mo ≤ 100) :
    Calls Tryz.prog 16 #[.pointer (some ⟨q, 0, none⟩), strV x] w (Ret fun v w' => ∃ L' m', StN w' q mb r mo L' m' ∧ Ch (QS q mb r) w w') := by
  have hll := so.len
  have fin : ∀ (w' : World), StR w' q mb r 0 mo (without x L) (mdel m x) → Ch (QS q mb r) w w' → ∃ L' m', StN w' q mb r mo L' m' ∧ Ch (QS q mb r) w w' := fun w' sr' ch => ⟨_, _, ⟨sr', so.dm.drop x, by have := without_len x L; omega⟩, ch⟩
  cases hm : mfind m x with
  | some pv =>
    refine (st_Drop pv mo q mb r L m x w so.sr (by omega) hm).mono ?_
    rintro e w' ⟨v, rfl, rfl, sr', ch⟩
    exact ⟨_, rfl, fin _ sr' ch⟩
  | none =>
    refine (st_Drop_miss mo q mb r L m x w so.sr (by omega) hm).mono ?_
    rintro e w' ⟨v, rfl, rfl, sr', ch⟩
    exact ⟨_, rfl, fin _ sr' ch⟩

set_option maxRecDepth 100000 in
theorem inf5w38 : Inf Tryz.prog 5 (.int .u8 0) 1 1 := ⟨Tryz.t5, Tryz.type5, rfl, rfl, rfl⟩
theorem bld32_2w38 {v2 : Value} (h : [v2].all Value.oneCell' = true) (w : World) : (Instr.build 32 ([(2, v2)] : List (Nat × Value)).toArray).run Tryz.prog w = .ok (.agg #[.int .i64 0, .string ⟨#[]⟩, v2, .int .i64 0]) w := by
  simp only [List.all_cons, Bool.and_eq_true, List.all_nil, and_true] at h
  have hv2 := oneCell_cells (v := v2) (by simp_all)
  have h1 := fill_set (fun i => ([(0, 1), (1, 1), (2, 1), (3, 1)] : List (Nat × Nat))[i]?) [(2, v2)] [.int .i64 0, .string ⟨#[]⟩, .int .i64 0, .int .i64 0] (by simp [okF, agg_cells, hv2, Nat.beq, Nat.ble])
  simp [setF, agg_cells, hv2] at h1
  simp [Instr.build, Tryz.runUnderlying32, Tryz.zeroValue32, Tryz.sizeOf3, Tryz.sizeOf9, agg_cells, h1]
set_option maxHeartbeats 8000000 in
set_option maxRecDepth 100000 in
theorem storeIters (SC LT : List Opn) (stop : Int) (S : Nat → Prop) (A AT : Option Addr) (c cT : Nat) (B : Nat) (E : Nat → Addr) (w : World) (sc : SlR S w A SC.length 4 (flatO SC)) (lt : SlR S w AT LT.length 4 (flatO LT)) (hS : ∀ y, S y → y < w.heap.size) (hlen : SC.length ≤ 140737488355328) (hlen2 : LT.length ≤ 140737488355328) (er : ErrT B E w) (hB : B ≤ w.heap.size) (st : StT w) (tab : TabB w.heap.size w) :
    Calls Tryz.prog 4 #[.slice A SC.length c, .slice AT LT.length cT, .int .i64 stop] w (Ret (fun v w' => v = .bool true ∧ Ch No w w')) := by
  have hgn := er.gn
  have hSS := hS
  refine calls_of_VCM (args := [.slice A SC.length c, .slice AT LT.length cT, .int .i64 stop]) Tryz.func4 rfl Tryz.ntmps4 rfl ?_
  refine VC.seq ?_
  refine VC.region ?_
  refine VO.wk (Wk.box rfl) rfl rfl rfl ?_
  rintro _ w1 ⟨p1, rfl, N1⟩
  have c1 := N1.ch
  have e1 := N1.p; have z1 := N1.size
  have b4 := Bk.new N1
  refine VO.wk (Wk.box rfl) rfl rfl rfl ?_
  rintro _ w2 ⟨p2, rfl, N2⟩
  have c2 := N2.ch
  have e2 := N2.p; have z2 := N2.size
  have b5 := Bk.new N2
  refine VO.wk (Wk.alloc Tryz.zeroValue4) rfl rfl rfl ?_
  rintro _ w3 ⟨p3, rfl, N3⟩
  have c3 := N3.ch
  have e3 := N3.p; have z3 := N3.size
  have b6 := Bk.new N3
  refine VO.nil ?_
  refine VQ.then_code ?_
  refine VC.seq ?_
  refine VC.seq ?_
  refine VC.region ?_
  have er_3 := er.keep (c1.trans (c2.trans c3))
  have st_3 := st.keep (c1.trans (c2.trans c3))
  have tab_3 := tab.keep (c1.trans (c2.trans c3))
  refine VO.wk (Wk.call Tryz.call5 rfl (law_lives B E _ er_3 (by omega) st_3 ((tab_3).up (by omega)))) rfl rfl rfl ?_
  rintro _ w4 ⟨rfl, c4⟩
  have z4 := c4.size
  refine VO.mv (Rn.not rfl) rfl rfl rfl ?_
  refine VO.nil ?_
  refine VQ.then_code ?_
  refine VC.cond_false rfl ?_
  refine VC.skip ?_
  refine VQ.then_code ?_
  refine VC.seq ?_
  refine VC.region ?_
  refine VO.wk (Wk.call Tryz.call6 rfl (store_New E 5 (by omega) (by omega) _)) rfl rfl rfl ?_
  rintro _ w5 ⟨qS, mbS, rfl, sr5, ymb, yq, c5⟩
  have ls5 := sr5.lt
  have so5 := StO.new sr5
  obtain ⟨BB5, hBB5⟩ : ∃ b, b = w5.heap.size := ⟨_, rfl⟩
  rw [← hBB5] at so5
  have z5 := c5.size
  refine VO.mv (Rn.move rfl) rfl rfl rfl ?_
  refine VO.mv (Rn.extract rfl rfl) rfl rfl rfl ?_
  refine VO.mv (Rn.extract rfl rfl) rfl rfl rfl ?_
  refine VO.wk (Wk.alloc Tryz.zeroValue25) rfl rfl rfl ?_
  rintro _ w6 ⟨p6, rfl, N6⟩
  have c6 := N6.ch
  have e6 := N6.p; have z6 := N6.size
  have b7 := Bk.new N6
  refine VO.wk0 (Wk.put Tryz.sizeOf25 rfl rfl rfl rfl b7 rfl) rfl rfl ?_
  intro _ w7 Z7
  have c7 := Z7.ch; have z7 := Z7.size
  have b7_7 := Bk.put Z7
  refine VO.mv (Rn.assign rfl) rfl rfl rfl ?_
  refine VO.nil ?_
  refine VQ.then_code ?_
  refine VC.seq ?_
  refine VC.seq ?_
  refine VC.region ?_
  refine VO.mv (Rn.move rfl) rfl rfl rfl ?_
  refine VO.mv (Rn.nil_neq_nil Tryz.underlying27 rfl) rfl rfl rfl ?_
  refine VO.mv (Rn.move rfl) rfl rfl rfl ?_
  refine VO.mv (Rn.load Tryz.isAgg25 rfl (b7_7.cell rfl)) rfl rfl rfl ?_
  refine VO.mv (Rn.ptr_eql_nil Tryz.underlying25 rfl) rfl rfl rfl ?_
  refine VO.mv (Rn.pick_false rfl rfl) rfl rfl rfl ?_
  refine VO.mv (Rn.move rfl) rfl rfl rfl ?_
  refine VO.mv (Rn.move rfl) rfl rfl rfl ?_
  refine VO.mv (Rn.len Tryz.underlying22 rfl) rfl rfl rfl ?_
  have cc_1_7 : Ch No w1 w7 := (Ch.then (E := No) ((((c2.and c3).and c4).and c5).and c6) c7 (by intro q h1 h2; rcases h2 with h2 | h2 <;> first | exact h2 | (exfalso; omega)))
  have b4_7 := b4.keep cc_1_7
  refine VO.mv (Rn.load Tryz.isAgg22 rfl (b4_7.cell rfl)) rfl rfl rfl ?_
  refine VO.mv (Rn.len Tryz.underlying22 rfl) rfl rfl rfl ?_
  refine VO.mv (Rn.add rfl rfl (by rw [IntKind.wrap_i64]; omega)) rfl rfl rfl ?_
  refine VO.mv (Rn.gtr rfl rfl) rfl rfl rfl ?_
  refine VO.mv (Rn.pick_false rfl rfl) rfl rfl rfl ?_
  refine VO.nil ?_
  refine VQ.then_code ?_
  refine VC.cond_if rfl (fun hc1 => ?_) (fun hc1 => ?_)
  · skip
    refine VC.seq ?_
    refine VC.region ?_
    refine VO.mv (Rn.move rfl) rfl rfl rfl ?_
    refine VO.mv (Rn.nil_eql_nil Tryz.underlying27 rfl) rfl rfl rfl ?_
    refine VO.mv (Rn.move rfl) rfl rfl rfl ?_
    refine VO.mv (Rn.load Tryz.isAgg25 rfl (b7_7.cell rfl)) rfl rfl rfl ?_
    refine VO.mv (Rn.ptr_neq_nil Tryz.underlying25 rfl) rfl rfl rfl ?_
    refine VO.mv (Rn.pick_true rfl rfl) rfl rfl rfl ?_
    have cc_3_7 : Ch No w3 w7 := (Ch.then (E := No) ((c4.and c5).and c6) c7 (by intro q h1 h2; rcases h2 with h2 | h2 <;> first | exact h2 | (exfalso; omega)))
    have b6_7 := b6.keep cc_3_7
    refine VO.wk0 (Wk.put Tryz.sizeOf4 rfl rfl rfl rfl b6_7 rfl) rfl rfl ?_
    intro _ w8 Z8
    have c8 := Z8.ch; have z8 := Z8.size
    have b6_8 := Bk.put Z8
    refine VO.nil ?_
    refine VQ.then_code ?_
    refine VC.ret ?_
    refine VQ.then_ret ?_
    refine VQ.toM ?_
    refine VQ.retc1 rfl rfl Tryz.isAgg4 (b6_8.cell rfl) ?_
    refine Ret.mk ?_
    have cc_0_8 : Ch No w w8 := (Ch.then (E := No) (Ch.then (E := No) (((((c1.and c2).and c3).and c4).and c5).and c6) c7 (by intro q h1 h2; rcases h2 with h2 | h2 <;> first | exact h2 | (exfalso; omega))) c8 (by intro q h1 h2; rcases h2 with h2 | h2 <;> first | exact h2 | (exfalso; omega)))
    have CH_8 := (Ch.refl (No) w).and cc_0_8
    exact ⟨rfl, CH_8⟩
  · skip
    refine VC.skip ?_
    refine VQ.then_code ?_
    refine VC.seq ?_
    refine VC.seq ?_
    refine VC.region ?_
    refine VO.mv (Rn.move rfl) rfl rfl rfl ?_
    refine VO.mv (Rn.len Tryz.underlying22 rfl) rfl rfl rfl ?_
    refine VO.mv (Rn.move rfl) rfl rfl rfl ?_
    refine VO.nil ?_
    refine VQ.then_code ?_
    refine VC.block ?_
    have cc_5_7 : Ch No w5 w7 := (Ch.then (E := No) c6 c7 (by intro q h1 h2; rcases h2 with h2 | h2 <;> first | exact h2 | (exfalso; omega)))
    have so_7 := so5.keep cc_5_7
    have cc_2_7 : Ch No w2 w7 := (Ch.then (E := No) (((c3.and c4).and c5).and c6) c7 (by intro q h1 h2; rcases h2 with h2 | h2 <;> first | exact h2 | (exfalso; omega)))
    have b5_7 := b5.keep cc_2_7
    have cc_3_7 : Ch No w3 w7 := (Ch.then (E := No) ((c4.and c5).and c6) c7 (by intro q h1 h2; rcases h2 with h2 | h2 <;> first | exact h2 | (exfalso; omega)))
    have b6_7 := b6.keep cc_3_7
    have cc_0_7 : Ch No w w7 := (Ch.then (E := No) (((((c1.and c2).and c3).and c4).and c5).and c6) c7 (by intro q h1 h2; rcases h2 with h2 | h2 <;> first | exact h2 | (exfalso; omega)))
    have sc_7 := sc.keep cc_0_7
    have lt_7 := lt.keep cc_0_7
    have er_7 := er_3.keep cc_3_7
    have st_7 := st_3.keep cc_3_7
    have tab_7 := tab_3.keep cc_3_7
    have CH_7 := (Ch.refl (No) w).and cc_0_7
    refine VC.loopS (σ := Nat × Nat × List Nm × List (Nm × Value) × (Nm → List UInt8) × Nat) (fun (i, r, L, m, pe, BB) => [(4, .pointer (some ⟨p1, 0, none⟩)), (5, .pointer (some ⟨p2, 0, none⟩)), (6, .pointer (some ⟨p3, 0, none⟩)), (7, .pointer (some ⟨p6, 0, none⟩)), (48, .slice A SC.length c), (49, .int .i64 SC.length), (50, .int .i64 i)]) (fun (i, r, L, m, pe, BB) w' => i ≤ SC.length ∧ (r = 0 ∨ w7.heap.size < r) ∧ BB ≤ w'.heap.size ∧ w7.heap.size ≤ w'.heap.size ∧ StO BB w' qS mbS r 5 L m pe ∧ Bk w' p1 #[.slice AT LT.length cT] 22 ∧ Bk w' p2 #[.int .i64 stop] 3 ∧ Bk w' p3 #[.bool false] 4 ∧ Bk w' p6 #[.pointer (some ⟨qS, 0, none⟩)] 25 ∧ SlR S w' A SC.length 4 (flatO SC) ∧ SlR S w' AT LT.length 4 (flatO LT) ∧ ErrT B E w' ∧ StT w' ∧ TabB w.heap.size w' ∧ Ch (No) w w') (fun (i, r, L, m, pe, BB) => SC.length - i) (0, 0, [], [], (fun _ => []), BB5) ?_ ⟨rfl, rfl, rfl, rfl, rfl, rfl, rfl, trivial⟩ ?_
    · exact ⟨(by omega), (.inl rfl), (by omega), (Nat.le_refl _), so_7, b4_7, b5_7, b6_7, b7_7, sc_7, lt_7, er_7, st_7, tab_7, CH_7⟩
    rintro ⟨i, r, L, m, pe, BB⟩ w9 ⟨hi, hr, hBBl, hsz9, so_9, b4_9, b5_9, b6_9, b7_9, sc_9, lt_9, er_9, st_9, tab_9, CH_9⟩
    show VC _ _ _ _ [(4, .pointer (some ⟨p1, 0, none⟩)), (5, .pointer (some ⟨p2, 0, none⟩)), (6, .pointer (some ⟨p3, 0, none⟩)), (7, .pointer (some ⟨p6, 0, none⟩)), (48, .slice A SC.length c), (49, .int .i64 SC.length), (50, .int .i64 i)] _
    have lso := so_9.lt
    refine VC.seq ?_
    refine VC.region ?_
    refine VO.mv (Rn.lss rfl rfl) rfl rfl rfl ?_
    refine VO.nil ?_
    refine VQ.then_code ?_
    refine VC.seq ?_
    refine VC.cond_if rfl (fun hc2 => ?_) (fun hc2 => ?_)
    · skip
      refine VC.skip ?_
      refine VQ.then_code ?_
      refine VC.seq ?_
      refine VC.block ?_
      refine VC.seq ?_
      obtain ⟨o, ho⟩ : ∃ o, SC[i]? = some o := ⟨_, List.getElem?_eq_getElem (by omega)⟩
      have ko := sl_op sc_9 rfl ho
      refine VC.region ?_
      refine VO.mv (Rn.indexS Tryz.underlying22 Tryz.sizeOf32 rfl rfl (sc_9.ne (by omega)) (by omega) (by omega)) rfl rfl rfl ?_
      refine VO.mv (Rn.loads Tryz.isAgg32 Tryz.sizeOf32 rfl rfl ko.1) rfl rfl rfl ?_
      refine VO.wk (Wk.alloc Tryz.zeroValue32) rfl rfl rfl ?_
      rintro _ w10 ⟨p10, rfl, N10⟩
      have c10 := N10.ch
      have e10 := N10.p; have z10 := N10.size
      have b10 := Bk.new N10
      refine VO.wk0 (Wk.puts Tryz.sizeOf32 rfl rfl rfl rfl b10 (Nat.le_of_ble_eq_true rfl)) rfl rfl ?_
      intro _ w11 Z11
      have c11 := Z11.ch; have z11 := Z11.size
      have b10_11 := Bk.put Z11
      refine VO.nil ?_
      refine VQ.then_code ?_
      refine VC.seq ?_
      refine VC.region ?_
      refine VO.mv (Rn.field Tryz.underlying32 rfl Tryz.sizeOf3 rfl rfl rfl) rfl rfl rfl ?_
      refine VO.mv (Rn.load Tryz.isAgg3 rfl (b10_11.cell rfl)) rfl rfl rfl ?_
      refine VO.mv (Rn.rem rfl rfl (by decide)) rfl rfl rfl ?_
      refine VO.mv (Rn.build rfl (bld32_2w38 rfl)) rfl rfl rfl ?_
      have cc_9_11 : Ch No w9 w11 := (Ch.then (E := No) c10 c11 (by intro q h1 h2; rcases h2 with h2 | h2 <;> first | exact h2 | (exfalso; omega)))
      have st_11 := st_9.keep cc_9_11
      have tab_11 := tab_9.keep cc_9_11
      refine VO.wk (Wk.call Tryz.call7 rfl (planOf0 0 (o.N.tmod 3) [] _ st_11 ((tab_11).up (by omega)) (by omega))) rfl rfl rfl ?_
      rintro _ w12 ⟨pp, rpp, rfl, hbp, plp12, c12⟩
      have z12 := c12.size
      refine VO.mv (Rn.assign rfl) rfl rfl rfl ?_
      refine VO.nil ?_
      refine VQ.then_code ?_
      refine VC.seq ?_
      refine VC.seq ?_
      refine VC.region ?_
      refine VO.mv (Rn.move rfl) rfl rfl rfl ?_
      refine VO.mv (Rn.ptr_eql_nil Tryz.underlying33 rfl) rfl rfl rfl ?_
      refine VO.nil ?_
      refine VQ.then_code ?_
      refine VC.cond_false rfl ?_
      refine VC.skip ?_
      refine VQ.then_code ?_
      refine VC.region ?_
      have cc_9_12 : Ch No w9 w12 := ((Ch.then (E := No) c10 c11 (by intro q h1 h2; rcases h2 with h2 | h2 <;> first | exact h2 | (exfalso; omega))).and c12)
      have b7_12 := b7_9.keep cc_9_12
      refine VO.mv (Rn.load Tryz.isAgg25 rfl (b7_12.cell rfl)) rfl rfl rfl ?_
      refine VO.mv (Rn.field Tryz.underlying32 rfl Tryz.sizeOf9 rfl rfl rfl) rfl rfl rfl ?_
      have b10_12 := b10_11.keep c12
      refine VO.mv (Rn.load Tryz.isAgg9 rfl (b10_12.cell rfl)) rfl rfl rfl ?_
      refine VO.mv (Rn.move rfl) rfl rfl rfl ?_
      have so_12 := so_9.keep cc_9_12
      have er_12 := er_9.keep cc_9_12
      refine VO.wk (Wk.call Tryz.call8 rfl (so_Keep E B _ _ _ pp 5 qS mbS r (plnM rpp.1) L m pe o.nm _ so_12 (by omega) (by omega) er_12 plp12 (by omega) (okP24 (planN_bd _).1 (planN_bd _).2 hbp) (by omega) (by omega) (by omega))) rfl rfl rfl ?_
      rintro v13 w13 ⟨r13, L13, m13, pe13, so13, yr13, c13⟩
      have ls13 := so13.lt
      obtain ⟨BB13, hBB13⟩ : ∃ b, b = w12.heap.size := ⟨_, rfl⟩
      rw [← hBB13] at so13
      have z13 := c13.size
      refine VO.nil ?_
      refine VQ.block_normal ?_
      refine VQ.then_code ?_
      refine VC.region ?_
      refine VO.mv (Rn.add rfl rfl (by rw [IntKind.wrap_i64]; omega)) rfl rfl rfl ?_
      refine VO.mv (Rn.move rfl) rfl rfl rfl ?_
      refine VO.nil ?_
      refine VQ.round (i + 1, r13, L13, m13, pe13, BB13) (by (dsimp only; omega)) ?_ ⟨rfl, rfl, rfl, rfl, rfl, rfl, rfl, trivial⟩
      have b4_12 := b4_9.keep cc_9_12
      have b4_13 := b4_12.to c13 (by first | exact id | omega)
      have b5_12 := b5_9.keep cc_9_12
      have b5_13 := b5_12.to c13 (by first | exact id | omega)
      have b6_12 := b6_9.keep cc_9_12
      have b6_13 := b6_12.to c13 (by first | exact id | omega)
      have b7_13 := b7_12.to c13 (by first | exact id | omega)
      have sc_12 := sc_9.keep cc_9_12
      have sc_13 := sc_12.to c13 (by first | exact fun _ _ _ _ => id | (intro q h1 h2 hx h3; have := hS q h2; omega))
      have lt_12 := lt_9.keep cc_9_12
      have lt_13 := lt_12.to c13 (by first | exact fun _ _ _ _ => id | (intro q h1 h2 hx h3; have := hS q h2; omega))
      have er_13 := er_12.to c13 (by first | exact fun _ _ _ _ => id | (intro q h1 h2 hx h3; omega))
      have st_12 := st_11.keep c12
      have st_13 := st_12.to c13 (by first | exact fun _ _ _ _ => id | (intro q h1 h2 hx h3; omega))
      have tab_12 := tab_11.keep c12
      have tab_13 := tab_12.to c13 (by first | exact fun _ _ _ _ => id | (intro q h1 h2 hx h3; omega))
      have CH_12 := CH_9.and cc_9_12
      have CH_13 : Ch (No) w w13 := CH_12.then c13 (by intro q h1 h2; rcases h2 with h2 | h2 <;> first | exact h2 | (exfalso; omega) | omega)
      exact ⟨(by omega), (by omega), (by omega), (by omega), so13, b4_13, b5_13, b6_13, b7_13, sc_13, lt_13, er_13, st_13, tab_13, CH_13⟩
    · skip
      refine VC.exit ?_
      refine VQ.then_exit ?_
      refine VQ.then_exit ?_
      refine VQ.block_exit ?_
      refine VQ.then_code ?_
      refine VC.seq ?_
      have hL5 := so_9.len
      refine VC.region ?_
      refine VO.mv (Rn.load Tryz.isAgg25 rfl (b7_9.cell rfl)) rfl rfl rfl ?_
      refine VO.wk (Wk.call Tryz.call10 rfl (so_names _ 5 qS mbS r L m pe _ so_9 (by omega))) rfl rfl rfl ?_
      rintro _ w14 ⟨rn, nA, nc, rfl, nl14, yrn, so14, c14⟩
      have lnl14 := nl14.lt
      have z14 := c14.size
      refine VO.mv (Rn.move rfl) rfl rfl rfl ?_
      refine VO.mv (Rn.extract rfl rfl) rfl rfl rfl ?_
      refine VO.mv (Rn.extract rfl rfl) rfl rfl rfl ?_
      refine VO.wk (Wk.alloc Tryz.zeroValue30) rfl rfl rfl ?_
      rintro _ w15 ⟨p15, rfl, N15⟩
      have c15 := N15.ch
      have e15 := N15.p; have z15 := N15.size
      have b12 := Bk.new N15
      refine VO.wk0 (Wk.put Tryz.sizeOf30 rfl rfl rfl rfl b12 rfl) rfl rfl ?_
      intro _ w16 Z16
      have c16 := Z16.ch; have z16 := Z16.size
      have b12_16 := Bk.put Z16
      refine VO.mv (Rn.assign rfl) rfl rfl rfl ?_
      refine VO.nil ?_
      refine VQ.then_code ?_
      refine VC.seq ?_
      refine VC.region ?_
      have b7_14 := b7_9.to c14 (by first | exact id | omega)
      have cc_14_16 : Ch No w14 w16 := (Ch.then (E := No) c15 c16 (by intro q h1 h2; rcases h2 with h2 | h2 <;> first | exact h2 | (exfalso; omega)))
      have b7_16 := b7_14.keep cc_14_16
      refine VO.mv (Rn.load Tryz.isAgg25 rfl (b7_16.cell rfl)) rfl rfl rfl ?_
      have so_16 := so14.keep cc_14_16
      refine VO.wk (Wk.call Tryz.call13 rfl (so_Names _ 5 qS mbS r L m pe _ so_16 (by omega))) rfl rfl rfl ?_
      rintro _ w17 ⟨pn, rc, cA, cC, rfl, bn17, cn17, ypn, yrc, yne, so17, c17⟩
      have ls17 := so17.lt; have lcn := cn17.lt; have lbn := bn17.lt
      have z17 := c17.size
      refine VO.mv (Rn.assign rfl) rfl rfl rfl ?_
      refine VO.nil ?_
      refine VQ.then_code ?_
      refine VC.seq ?_
      refine VC.draws 5 [(0, true), (2, true), (1, false), (3, false), (4, true)] (fun w1 w' => Ch (QS qS mbS r) w1 w') mixed (by kernel_rfl) (fun _ _ => Ch.refl _ _) ?_
      intro w18 D18
      have c18 := Ch.of_drew D18; have z18 := c18.size
      have sc_14 := sc_9.to c14 (by first | exact fun _ _ _ _ => id | (intro q h1 h2 hx h3; have := hS q h2; omega))
      have sc_16 := sc_14.keep cc_14_16
      have sc_17 := sc_16.to c17 (by first | exact fun _ _ _ _ => id | (intro q h1 h2 hx h3; have := hS q h2; omega))
      have sc_18 := sc_17.keep c18
      have lt_14 := lt_9.to c14 (by first | exact fun _ _ _ _ => id | (intro q h1 h2 hx h3; have := hS q h2; omega))
      have lt_16 := lt_14.keep cc_14_16
      have lt_17 := lt_16.to c17 (by first | exact fun _ _ _ _ => id | (intro q h1 h2 hx h3; have := hS q h2; omega))
      have lt_18 := lt_17.keep c18
      have er_14 := er_9.to c14 (by first | exact fun _ _ _ _ => id | (intro q h1 h2 hx h3; omega))
      have er_16 := er_14.keep cc_14_16
      have er_17 := er_16.to c17 (by first | exact fun _ _ _ _ => id | (intro q h1 h2 hx h3; omega))
      have er_18 := er_17.keep c18
      have b4_14 := b4_9.to c14 (by first | exact id | omega)
      have b4_16 := b4_14.keep cc_14_16
      have b4_17 := b4_16.to c17 (by first | exact id | omega)
      have b4_18 := b4_17.keep c18
      have b5_14 := b5_9.to c14 (by first | exact id | omega)
      have b5_16 := b5_14.keep cc_14_16
      have b5_17 := b5_16.to c17 (by first | exact id | omega)
      have b5_18 := b5_17.keep c18
      have b6_14 := b6_9.to c14 (by first | exact id | omega)
      have b6_16 := b6_14.keep cc_14_16
      have b6_17 := b6_16.to c17 (by first | exact id | omega)
      have b6_18 := b6_17.keep c18
      have b7_17 := b7_16.to c17 (by first | exact id | omega)
      have b7_18 := b7_17.keep c18
      have nl_16 := nl14.keep cc_14_16
      have nl_17 := nl_16.to c17 (by first | exact fun _ _ _ _ => id | (intro q h1 h2 hx h3; omega))
      have nl_18 := nl_17.keep c18
      have b12_17 := b12_16.to c17 (by first | exact id | omega)
      have b12_18 := b12_17.keep c18
      have bn_18 := bn17.keep c18
      have cn_18 := cn17.keep c18
      refine VH.mv (fun w' hS => Rn.load Tryz.isAgg25 rfl ((b7_18.to hS (by first | exact id | omega)).cell rfl)) rfl rfl rfl rfl ?_
      refine VH.mv (fun w' hS => Rn.load Tryz.isAgg25 rfl ((b7_18.to hS (by first | exact id | omega)).cell rfl)) rfl rfl rfl rfl ?_
      have so_18 := so17.keep c18
      have st_14 := st_9.to c14 (by first | exact fun _ _ _ _ => id | (intro q h1 h2 hx h3; omega))
      have st_16 := st_14.keep cc_14_16
      have st_17 := st_16.to c17 (by first | exact fun _ _ _ _ => id | (intro q h1 h2 hx h3; omega))
      have st_18 := st_17.keep c18
      refine VH.wk (Wk.call Tryz.call14 rfl (so_Save _ 5 qS mbS r L m pe _ so_18 (by omega) (by omega) st_18 (by omega) (by omega) (by omega))) rfl rfl rfl rfl ?_
      rintro _ w19 ⟨rsa, Asa, csa, rfl, sa19, ysa, hlsa, so19, c19⟩
      have lsa19 := sa19.lt; have ls19 := so19.lt
      have z19 := c19.size
      have RD_19 : Ch (QS qS mbS r) w18 w19 := (Ch.refl (QS qS mbS r) w18).then c19 (by intro q h1 h2; rcases h2 with h2 | h2 <;> first | exact h2 | (exfalso; omega) | omega)
      refine ⟨RD_19, ?_⟩
      have st_19 := st_18.to c19 (by first | exact fun _ _ _ _ => id | (intro q h1 h2 hx h3; omega))
      refine VH.wk (Wk.call Tryz.call14 rfl (so_Save _ 5 qS mbS r L m pe _ so19 (by omega) (by omega) st_19 (by omega) (by omega) (by omega))) rfl rfl rfl rfl ?_
      rintro _ w20 ⟨rsc2, Asc2, csc2, rfl, sc220, ysc2, hlsc2, so20, c20⟩
      have lsc220 := sc220.lt; have ls20 := so20.lt
      have z20 := c20.size
      have RD_20 : Ch (QS qS mbS r) w18 w20 := RD_19.then c20 (by intro q h1 h2; rcases h2 with h2 | h2 <;> first | exact h2 | (exfalso; omega) | omega)
      refine ⟨RD_20, ?_⟩
      refine VH.mv (fun w' hS => Rn.assign rfl) rfl rfl rfl rfl ?_
      refine VH.done ?_
      refine VO.mv (Rn.assign rfl) rfl rfl rfl ?_
      refine VO.nil ?_
      refine VQ.noPanic ?_
      refine VQ.then_code ?_
      refine VC.seq ?_
      refine VC.seq ?_
      refine VC.region ?_
      refine VO.mv (Rn.move rfl) rfl rfl rfl ?_
      refine VO.mv (Rn.not rfl) rfl rfl rfl ?_
      refine VO.mv (Rn.move rfl) rfl rfl rfl ?_
      refine VO.mv (Rn.move rfl) rfl rfl rfl ?_
      refine VO.mv (Rn.func_eql_nil Tryz.underlying44 rfl) rfl rfl rfl ?_
      refine VO.mv (Rn.pick_false rfl rfl) rfl rfl rfl ?_
      refine VO.mv (Rn.move rfl) rfl rfl rfl ?_
      refine VO.mv (Rn.move rfl) rfl rfl rfl ?_
      refine VO.mv (Rn.len Tryz.underlying46 rfl) rfl rfl rfl ?_
      refine VO.mv (Rn.eqlF rfl rfl (by have := saveB_pos 5 L pe; omega)) rfl rfl rfl ?_
      refine VO.mv (Rn.pick_false rfl rfl) rfl rfl rfl ?_
      refine VO.nil ?_
      refine VQ.then_code ?_
      refine VC.cond_false rfl ?_
      refine VC.skip ?_
      refine VQ.then_code ?_
      refine VC.seq ?_
      refine VC.seq ?_
      refine VC.region ?_
      refine VO.mv (Rn.move rfl) rfl rfl rfl ?_
      refine VO.mv (Rn.len Tryz.underlying46 rfl) rfl rfl rfl ?_
      refine VO.mv (Rn.move rfl) rfl rfl rfl ?_
      refine VO.nil ?_
      refine VQ.then_code ?_
      refine VC.block ?_
      have sa_20 := sa19.to c20 (by first | exact fun _ _ _ _ => id | (intro q h1 h2 hx h3; omega))
      have nl_19 := nl_18.to c19 (by first | exact fun _ _ _ _ => id | (intro q h1 h2 hx h3; omega))
      have nl_20 := nl_19.to c20 (by first | exact fun _ _ _ _ => id | (intro q h1 h2 hx h3; omega))
      have b12_19 := b12_18.to c19 (by first | exact id | omega)
      have b12_20 := b12_19.to c20 (by first | exact id | omega)
      have bn_19 := bn_18.to c19 (by first | exact id | omega)
      have bn_20 := bn_19.to c20 (by first | exact id | omega)
      have cn_19 := cn_18.to c19 (by first | exact fun _ _ _ _ => id | (intro q h1 h2 hx h3; omega))
      have cn_20 := cn_19.to c20 (by first | exact fun _ _ _ _ => id | (intro q h1 h2 hx h3; omega))
      have b4_19 := b4_18.to c19 (by first | exact id | omega)
      have b4_20 := b4_19.to c20 (by first | exact id | omega)
      have b5_19 := b5_18.to c19 (by first | exact id | omega)
      have b5_20 := b5_19.to c20 (by first | exact id | omega)
      have b6_19 := b6_18.to c19 (by first | exact id | omega)
      have b6_20 := b6_19.to c20 (by first | exact id | omega)
      have b7_19 := b7_18.to c19 (by first | exact id | omega)
      have b7_20 := b7_19.to c20 (by first | exact id | omega)
      have sc_19 := sc_18.to c19 (by first | exact fun _ _ _ _ => id | (intro q h1 h2 hx h3; have := hS q h2; omega))
      have sc_20 := sc_19.to c20 (by first | exact fun _ _ _ _ => id | (intro q h1 h2 hx h3; have := hS q h2; omega))
      have lt_19 := lt_18.to c19 (by first | exact fun _ _ _ _ => id | (intro q h1 h2 hx h3; have := hS q h2; omega))
      have lt_20 := lt_19.to c20 (by first | exact fun _ _ _ _ => id | (intro q h1 h2 hx h3; have := hS q h2; omega))
      have er_19 := er_18.to c19 (by first | exact fun _ _ _ _ => id | (intro q h1 h2 hx h3; omega))
      have er_20 := er_19.to c20 (by first | exact fun _ _ _ _ => id | (intro q h1 h2 hx h3; omega))
      have st_20 := st_19.to c20 (by first | exact fun _ _ _ _ => id | (intro q h1 h2 hx h3; omega))
      have tab_14 := tab_9.to c14 (by first | exact fun _ _ _ _ => id | (intro q h1 h2 hx h3; omega))
      have tab_16 := tab_14.keep cc_14_16
      have tab_17 := tab_16.to c17 (by first | exact fun _ _ _ _ => id | (intro q h1 h2 hx h3; omega))
      have tab_18 := tab_17.keep c18
      have tab_19 := tab_18.to c19 (by first | exact fun _ _ _ _ => id | (intro q h1 h2 hx h3; omega))
      have tab_20 := tab_19.to c20 (by first | exact fun _ _ _ _ => id | (intro q h1 h2 hx h3; omega))
      have CH_14 : Ch (No) w w14 := CH_9.then c14 (by intro q h1 h2; rcases h2 with h2 | h2 <;> first | exact h2 | (exfalso; omega) | omega)
      have CH_16 := CH_14.and cc_14_16
      have CH_17 : Ch (No) w w17 := CH_16.then c17 (by intro q h1 h2; rcases h2 with h2 | h2 <;> first | exact h2 | (exfalso; omega) | omega)
      have CH_18 := CH_17.and c18
      have CH_19 : Ch (No) w w19 := CH_18.then c19 (by intro q h1 h2; rcases h2 with h2 | h2 <;> first | exact h2 | (exfalso; omega) | omega)
      have CH_20 : Ch (No) w w20 := CH_19.then c20 (by intro q h1 h2; rcases h2 with h2 | h2 <;> first | exact h2 | (exfalso; omega) | omega)
      refine VC.loopS (σ := Nat) (fun i => [(4, .pointer (some ⟨p1, 0, none⟩)), (5, .pointer (some ⟨p2, 0, none⟩)), (6, .pointer (some ⟨p3, 0, none⟩)), (7, .pointer (some ⟨p6, 0, none⟩)), (12, .pointer (some ⟨p15, 0, none⟩)), (14, .func (.func 28) #[] #[.pointer (some ⟨pn, 0, none⟩)]), (15, .slice Asa (saveB 5 L pe).length csa), (16, .slice Asc2 (saveB 5 L pe).length csc2), (89, .slice Asa (saveB 5 L pe).length csa), (90, .int .i64 (saveB 5 L pe).length), (91, .int .i64 i)]) (fun i w' => ∃ bs, i ≤ (saveB 5 L pe).length ∧ bs.length = (saveB 5 L pe).length ∧ w20.heap.size ≤ w'.heap.size ∧ Ow w' rsa 5 1 Asa (saveB 5 L pe).length csa (Lib.byteCells bs) ∧ StO BB w' qS mbS r 5 L m pe ∧ Ow w' rn 9 1 nA L.length nc (L.map strV) ∧ Bk w' p15 #[.slice nA L.length nc] 30 ∧ Bk w' pn #[.slice cA L.length cC] 30 ∧ Ow w' rc 9 1 cA L.length cC (L.map strV) ∧ Ow w' rsc2 5 1 Asc2 (saveB 5 L pe).length csc2 (Lib.byteCells (saveB 5 L pe)) ∧ Bk w' p1 #[.slice AT LT.length cT] 22 ∧ Bk w' p2 #[.int .i64 stop] 3 ∧ Bk w' p3 #[.bool false] 4 ∧ Bk w' p6 #[.pointer (some ⟨qS, 0, none⟩)] 25 ∧ SlR S w' A SC.length 4 (flatO SC) ∧ SlR S w' AT LT.length 4 (flatO LT) ∧ ErrT B E w' ∧ StT w' ∧ TabB w.heap.size w' ∧ Ch (No) w w') (fun i => (saveB 5 L pe).length - i) 0 ?_ ⟨rfl, rfl, rfl, rfl, rfl, rfl, rfl, rfl, rfl, rfl, rfl, trivial⟩ ?_
      · exact ⟨(saveB 5 L pe), (by omega), rfl, (Nat.le_refl _), sa_20, so20, nl_20, b12_20, bn_20, cn_20, sc220, b4_20, b5_20, b6_20, b7_20, sc_20, lt_20, er_20, st_20, tab_20, CH_20⟩
      rintro i w21 ⟨bs, hi2, hbl, hsz21, sa_21, so_21, nl_21, b12_21, bn_21, cn_21, sc2_21, b4_21, b5_21, b6_21, b7_21, sc_21, lt_21, er_21, st_21, tab_21, CH_21⟩
      show VC _ _ _ _ [(4, .pointer (some ⟨p1, 0, none⟩)), (5, .pointer (some ⟨p2, 0, none⟩)), (6, .pointer (some ⟨p3, 0, none⟩)), (7, .pointer (some ⟨p6, 0, none⟩)), (12, .pointer (some ⟨p15, 0, none⟩)), (14, .func (.func 28) #[] #[.pointer (some ⟨pn, 0, none⟩)]), (15, .slice Asa (saveB 5 L pe).length csa), (16, .slice Asc2 (saveB 5 L pe).length csc2), (89, .slice Asa (saveB 5 L pe).length csa), (90, .int .i64 (saveB 5 L pe).length), (91, .int .i64 i)] _
      have lso2 := so_21.lt
      have lrr2 := sa_21.lt; have lrc2 := sc2_21.lt
      have ty1_0 : w.heap.size ≤ p1 := by omega
      have ty1_1 : p1 < p2 := by omega
      have ty1_2 : p2 < p3 := by omega
      have ty1_3 : p3 < qS := by omega
      have ty1_4 : p3 < mbS := by omega
      have ty1_5 : qS < p6 := by omega
      have ty1_6 : mbS < p6 := by omega
      have ty1_7 : (r = 0 ∨ p6 + 1 < r) := by omega
      have ty1_8 : r < rn := by omega
      have ty1_9 : p6 + 1 < rn := by omega
      have ty1_10 : rn ≤ p15 := by omega
      have ty1_11 : p15 < pn := by omega
      have ty1_12 : (rc = 0 ∨ p15 + 1 < rc) := by omega
      have ty1_13 : rc ≠ pn + 1 := by omega
      have ty1_14 : SC.length + LT.length ≤ 200 := by omega
      have ty1_15 : L.length ≤ 5 := by omega
      have ty1_16 : (rsa = 0 ∨ (rc < rsa ∧ pn + 1 < rsa)) := by omega
      have ty1_17 : (rsc2 = 0 ∨ (rsa < rsc2 ∧ rc < rsc2 ∧ pn + 1 < rsc2)) := by omega
      have ty1_18 : rsc2 ≤ w21.heap.size := by omega
      have ty1_19 : rsa ≤ w21.heap.size := by omega
      have ty1_20 : pn < w21.heap.size := by omega
      have ty1_21 : rc ≤ w21.heap.size := by omega
      have ty1_22 : BB ≤ w21.heap.size := by omega
      clear lrc2 lrr2 lso2 CH_20 CH_19 CH_18 CH_17 CH_16 CH_14 tab_20 tab_19 tab_18 tab_17 tab_16 tab_14 st_20 er_20 er_19 lt_20 lt_19 sc_20 sc_19 b7_20 b7_19 b6_20 b6_19 b5_20 b5_19 b4_20 b4_19 cn_20 cn_19 bn_20 bn_19 b12_20 b12_19 nl_20 nl_19 sa_20 RD_20 z20 ls20 lsc220 c20 st_19 RD_19 z19 ls19 lsa19 c19 st_18 st_17 st_16 st_14 so_18 cn_18 bn_18 b12_18 b12_17 nl_18 nl_17 nl_16 b7_18 b7_17 b6_18 b6_17 b6_16 b6_14 b5_18 b5_17 b5_16 b5_14 b4_18 b4_17 b4_16 b4_14 er_18 er_17 er_16 er_14 lt_18 lt_17 lt_16 lt_14 sc_18 sc_17 sc_16 sc_14 z18 c18 D18 z17 lbn lcn ls17 c17 so_16 b7_16 b7_14 b12_16 z16 c16 Z16 b12 z15 e15 c15 N15 z14 lnl14 c14 hL5 lso CH_9 CH_7 tab_7 st_7 er_7 lt_7 sc_7 b6_7 b5_7 so_7 b4_7 b7_7 z7 c7 Z7 b7 z6 e6 c6 N6 z5 so5 ls5 c5 z4 c4 tab_3 st_3 er_3 b6 z3 e3 c3 N3 b5 z2 e2 c2 N2 b4 z1 e1 c1 N1
      refine VC.seq ?_
      refine VC.region ?_
      refine VO.mv (Rn.lss rfl rfl) rfl rfl rfl ?_
      refine VO.nil ?_
      refine VQ.then_code ?_
      refine VC.seq ?_
      refine VC.cond_if rfl (fun hc3 => ?_) (fun hc3 => ?_)
      · skip
        refine VC.skip ?_
        refine VQ.then_code ?_
        refine VC.seq ?_
        refine VC.block ?_
        refine VC.seq ?_
        refine VC.region ?_
        refine VO.mv (Rn.move rfl) rfl rfl rfl ?_
        refine VO.mv (Rn.assign rfl) rfl rfl rfl ?_
        refine VO.nil ?_
        refine VQ.then_code ?_
        obtain ⟨y, hy⟩ : ∃ y, bs[i]? = some y := ⟨_, List.getElem?_eq_getElem (by omega)⟩
        refine VC.region ?_
        refine VO.mv (Rn.move rfl) rfl rfl rfl ?_
        refine VO.mv (Rn.move rfl) rfl rfl rfl ?_
        refine VO.mv (Rn.indexS Tryz.underlying46 Tryz.sizeOf5 rfl rfl (sa_21.sl.ne (by omega)) (by omega) (by omega)) rfl rfl rfl ?_
        refine VO.mv (Rn.load Tryz.isAgg5 rfl (byte_get sa_21.sl hy)) rfl rfl rfl ?_
        refine VO.mv (Rn.xor17 rfl rfl) rfl rfl rfl ?_
        refine VO.mv (Rn.indexS Tryz.underlying46 Tryz.sizeOf5 rfl rfl (sa_21.sl.ne (by omega)) (by omega) (by omega)) rfl rfl rfl ?_
        refine VO.wk0 (Wk.storeO Tryz.sizeOf5 rfl rfl rfl rfl sa_21 (by rw [show ((i : Int)).toNat = i from rfl, Lib.byteCells, List.getElem?_map, hy]; rfl)) rfl rfl ?_
        rintro _ w22 ⟨o22, c22⟩
        have z22 := c22.size
        have y22 := o22.lt
        refine VO.nil ?_
        refine VQ.block_normal ?_
        refine VQ.then_code ?_
        refine VC.region ?_
        refine VO.mv (Rn.add rfl rfl (by rw [IntKind.wrap_i64]; omega)) rfl rfl rfl ?_
        refine VO.mv (Rn.move rfl) rfl rfl rfl ?_
        refine VO.nil ?_
        refine VQ.round (i + 1) (by first | omega | (dsimp only; omega)) ?_ ⟨rfl, rfl, rfl, rfl, rfl, rfl, rfl, rfl, rfl, rfl, rfl, trivial⟩
        have so_22 := so_21.to c22 (by first | exact fun _ _ _ _ => id | (intro q h1 h2 hx h3; omega))
        have nl_22 := nl_21.to c22 (by first | exact fun _ _ _ _ => id | (intro q h1 h2 hx h3; omega))
        have b12_22 := b12_21.to c22 (by first | exact id | omega)
        have bn_22 := bn_21.to c22 (by first | exact id | omega)
        have cn_22 := cn_21.to c22 (by first | exact fun _ _ _ _ => id | (intro q h1 h2 hx h3; omega))
        have sc2_22 := sc2_21.to c22 (by first | exact fun _ _ _ _ => id | (intro q h1 h2 hx h3; omega))
        have b4_22 := b4_21.to c22 (by first | exact id | omega)
        have b5_22 := b5_21.to c22 (by first | exact id | omega)
        have b6_22 := b6_21.to c22 (by first | exact id | omega)
        have b7_22 := b7_21.to c22 (by first | exact id | omega)
        have sc_22 := sc_21.to c22 (by first | exact fun _ _ _ _ => id | (intro q h1 h2 hx h3; have := hS q h2; omega))
        have lt_22 := lt_21.to c22 (by first | exact fun _ _ _ _ => id | (intro q h1 h2 hx h3; have := hS q h2; omega))
        have er_22 := er_21.to c22 (by first | exact fun _ _ _ _ => id | (intro q h1 h2 hx h3; omega))
        have st_22 := st_21.to c22 (by first | exact fun _ _ _ _ => id | (intro q h1 h2 hx h3; omega))
        have tab_22 := tab_21.to c22 (by first | exact fun _ _ _ _ => id | (intro q h1 h2 hx h3; omega))
        have CH_22 : Ch (No) w w22 := CH_21.then c22 (by intro q h1 h2; rcases h2 with h2 | h2 <;> first | exact h2 | (exfalso; omega) | omega)
        exact ⟨(bs.set i (y ^^^ 17)), (by omega), (by rw [List.length_set]; exact hbl), (by omega), ((o22).to' rfl (byte_set _ _ _)), so_22, nl_22, b12_22, bn_22, cn_22, sc2_22, b4_22, b5_22, b6_22, b7_22, sc_22, lt_22, er_22, st_22, tab_22, CH_22⟩
      · skip
        refine VC.exit ?_
        refine VQ.then_exit ?_
        refine VQ.then_exit ?_
        refine VQ.block_exit ?_
        refine VQ.then_code ?_
        refine VC.seq ?_
        refine VC.region ?_
        refine VO.mv (Rn.move rfl) rfl rfl rfl ?_
        refine VO.wk (Wk.lit Tryz.underlying46 inf5w38 (by decide) rfl rfl (by rfl) (by decide) (by decide) (by rfl)) rfl rfl rfl ?_
        rintro _ w23 ⟨p23, rfl, N23⟩
        have c23 := N23.ch
        have e23 := N23.p; have z23 := N23.size
        have l102 := SlR.of_new (sz := 1) (l := 1) N23 rfl
        have l102o := Ow.of_new (sz := 1) (l := 1) N23 rfl (by decide)
        have sa_23 := sa_21.keep c23
        refine VO.wk (Wk.append (S := _) Tryz.underlying46 inf5w38 rfl (by decide) rfl rfl sa_23 l102 (by rfl) (fun h => by simp at h) (by omega) (by simp only [maxLen]; omega)) rfl rfl rfl ?_
        rintro _ w24 ⟨r24, A24, k24, rfl, o24, c24, q24⟩
        have z24 := c24.size
        have y24 := o24.lt
        refine VO.mv (Rn.assign rfl) rfl rfl rfl ?_
        refine VO.nil ?_
        refine VQ.then_code ?_
        refine VC.seq ?_
        refine VC.region ?_
        have b7_23 := b7_21.keep c23
        have b7_24 := b7_23.to c24 (by first | exact id | omega)
        refine VO.mv (Rn.load Tryz.isAgg25 rfl (b7_24.cell rfl)) rfl rfl rfl ?_
        have so_23 := so_21.keep c23
        have so_24 := so_23.to c24 (by first | exact fun _ _ _ _ => id | (intro q h1 h2 hx h3; omega))
        refine VO.wk (Wk.call Tryz.call10 rfl (so_names _ 5 qS mbS r L m pe _ so_24 (by omega))) rfl rfl rfl ?_
        rintro _ w25 ⟨rn2, nA2, nc2, rfl, nm25, yrn2, so25, c25⟩
        have lnm25 := nm25.lt
        have z25 := c25.size
        refine VO.mv (Rn.move rfl) rfl rfl rfl ?_
        refine VO.mv (Rn.extract rfl rfl) rfl rfl rfl ?_
        refine VO.mv (Rn.extract rfl rfl) rfl rfl rfl ?_
        refine VO.mv (Rn.assign rfl) rfl rfl rfl ?_
        refine VO.mv (Rn.assign rfl) rfl rfl rfl ?_
        refine VO.nil ?_
        refine VQ.then_code ?_
        refine VC.seq ?_
        refine VC.seq ?_
        refine VC.draws 25 [(0, true), (1, true), (2, true), (3, true), (4, true), (5, false), (6, true), (7, true), (8, true), (9, true), (12, true), (13, true), (10, false), (11, false), (14, true), (15, true), (16, true), (17, true), (18, true), (19, true), (20, true), (21, true), (22, true), (23, true), (24, true)] (fun w1 w' => Ch (QS qS mbS r) w1 w') mixed (by kernel_rfl) (fun _ _ => Ch.refl _ _) ?_
        intro w26 D26
        have c26 := Ch.of_drew D26; have z26 := c26.size
        have sc_23 := sc_21.keep c23
        have sc_24 := sc_23.to c24 (by first | exact fun _ _ _ _ => id | (intro q h1 h2 hx h3; have := hS q h2; omega))
        have sc_25 := sc_24.to c25 (by first | exact fun _ _ _ _ => id | (intro q h1 h2 hx h3; have := hS q h2; omega))
        have sc_26 := sc_25.keep c26
        have lt_23 := lt_21.keep c23
        have lt_24 := lt_23.to c24 (by first | exact fun _ _ _ _ => id | (intro q h1 h2 hx h3; have := hS q h2; omega))
        have lt_25 := lt_24.to c25 (by first | exact fun _ _ _ _ => id | (intro q h1 h2 hx h3; have := hS q h2; omega))
        have lt_26 := lt_25.keep c26
        have er_23 := er_21.keep c23
        have er_24 := er_23.to c24 (by first | exact fun _ _ _ _ => id | (intro q h1 h2 hx h3; omega))
        have er_25 := er_24.to c25 (by first | exact fun _ _ _ _ => id | (intro q h1 h2 hx h3; omega))
        have er_26 := er_25.keep c26
        have b4_23 := b4_21.keep c23
        have b4_24 := b4_23.to c24 (by first | exact id | omega)
        have b4_25 := b4_24.to c25 (by first | exact id | omega)
        have b4_26 := b4_25.keep c26
        have b5_23 := b5_21.keep c23
        have b5_24 := b5_23.to c24 (by first | exact id | omega)
        have b5_25 := b5_24.to c25 (by first | exact id | omega)
        have b5_26 := b5_25.keep c26
        have b6_23 := b6_21.keep c23
        have b6_24 := b6_23.to c24 (by first | exact id | omega)
        have b6_25 := b6_24.to c25 (by first | exact id | omega)
        have b6_26 := b6_25.keep c26
        have b7_25 := b7_24.to c25 (by first | exact id | omega)
        have b7_26 := b7_25.keep c26
        have nl_23 := nl_21.keep c23
        have nl_24 := nl_23.to c24 (by first | exact fun _ _ _ _ => id | (intro q h1 h2 hx h3; omega))
        have nl_25 := nl_24.to c25 (by first | exact fun _ _ _ _ => id | (intro q h1 h2 hx h3; omega))
        have nl_26 := nl_25.keep c26
        have b12_23 := b12_21.keep c23
        have b12_24 := b12_23.to c24 (by first | exact id | omega)
        have b12_25 := b12_24.to c25 (by first | exact id | omega)
        have b12_26 := b12_25.keep c26
        have bn_23 := bn_21.keep c23
        have bn_24 := bn_23.to c24 (by first | exact id | omega)
        have bn_25 := bn_24.to c25 (by first | exact id | omega)
        have bn_26 := bn_25.keep c26
        have cn_23 := cn_21.keep c23
        have cn_24 := cn_23.to c24 (by first | exact fun _ _ _ _ => id | (intro q h1 h2 hx h3; omega))
        have cn_25 := cn_24.to c25 (by first | exact fun _ _ _ _ => id | (intro q h1 h2 hx h3; omega))
        have cn_26 := cn_25.keep c26
        have sa_25 := o24.to c25 (by first | exact fun _ _ _ _ => id | (intro q h1 h2 hx h3; omega))
        have sa_26 := sa_25.keep c26
        have sc2_23 := sc2_21.keep c23
        have sc2_24 := sc2_23.to c24 (by first | exact fun _ _ _ _ => id | (intro q h1 h2 hx h3; omega))
        have sc2_25 := sc2_24.to c25 (by first | exact fun _ _ _ _ => id | (intro q h1 h2 hx h3; omega))
        have sc2_26 := sc2_25.keep c26
        have l102o_24 := l102o.to c24 (by first | exact fun _ _ _ _ => id | (intro q h1 h2 hx h3; omega))
        have l102o_25 := l102o_24.to c25 (by first | exact fun _ _ _ _ => id | (intro q h1 h2 hx h3; omega))
        have l102o_26 := l102o_25.keep c26
        have nm_26 := nm25.keep c26
        refine VH.mv (fun w' hS => Rn.move rfl) rfl rfl rfl rfl ?_
        refine VH.mv (fun w' hS => Rn.not rfl) rfl rfl rfl rfl ?_
        refine VH.mv (fun w' hS => Rn.move rfl) rfl rfl rfl rfl ?_
        refine VH.mv (fun w' hS => Rn.move rfl) rfl rfl rfl rfl ?_
        refine VH.mv (fun w' hS => Rn.load Tryz.isAgg30 rfl ((b12_26.to hS (by first | exact id | omega)).cell rfl)) rfl rfl rfl rfl ?_
        refine VH.wk (Wk.call Tryz.call15 rfl (sameTexts_same L _ _ _ _ _ _ _ nm_26.sl nl_26.sl (by omega))) rfl rfl rfl rfl ?_
        rintro _ w27 ⟨rfl, c27⟩
        have z27 := c27.size
        have RD_27 := (Ch.refl (QS qS mbS r) w26).and c27
        refine ⟨RD_27, ?_⟩
        refine VH.mv (fun w' hS => Rn.not rfl) rfl rfl rfl rfl ?_
        refine VH.mv (fun w' hS => Rn.pick_false rfl rfl) rfl rfl rfl rfl ?_
        refine VH.mv (fun w' hS => Rn.move rfl) rfl rfl rfl rfl ?_
        refine VH.mv (fun w' hS => Rn.load Tryz.isAgg25 rfl ((b7_26.to hS (by first | exact id | omega)).cell rfl)) rfl rfl rfl rfl ?_
        refine VH.mv (fun w' hS => Rn.move rfl) rfl rfl rfl rfl ?_
        refine VH.mv (fun w' hS => Rn.bytes_string Tryz.underlying46 Tryz.underlying5 Tryz.underlying9 rfl (saveB_pos _ _ _) ((sc2_26).to hS (by intro q h1 h2 hx h3; omega)).sl) rfl rfl rfl rfl ?_
        have so_27 := so25.keep (c26.trans c27)
        have st_23 := st_21.keep c23
        have st_24 := st_23.to c24 (by first | exact fun _ _ _ _ => id | (intro q h1 h2 hx h3; omega))
        have st_25 := st_24.to c25 (by first | exact fun _ _ _ _ => id | (intro q h1 h2 hx h3; omega))
        have st_27 := st_25.keep (c26.trans c27)
        refine VH.wk (Wk.call Tryz.call14 rfl (so_Save _ 5 qS mbS r L m pe _ so_27 (by omega) (by omega) st_27 (by omega) (by omega) (by omega))) rfl rfl rfl rfl ?_
        rintro _ w28 ⟨rsd, Asd, csd, rfl, sd28, ysd, hlsd, so28, c28⟩
        have lsd28 := sd28.lt; have ls28 := so28.lt
        have z28 := c28.size
        have RD_28 : Ch (QS qS mbS r) w26 w28 := RD_27.then c28 (by intro q h1 h2; rcases h2 with h2 | h2 <;> first | exact h2 | (exfalso; omega) | omega)
        refine ⟨RD_28, ?_⟩
        refine VH.late (Rn.bytes_string Tryz.underlying46 Tryz.underlying5 Tryz.underlying9 rfl (saveB_pos _ _ _) sd28.sl) rfl rfl rfl rfl RD_28 ?_
        refine VH.mv (fun w' hS => Rn.nm_neqF rfl rfl rfl) rfl rfl rfl rfl ?_
        refine VH.mv (fun w' hS => Rn.pick_false rfl rfl) rfl rfl rfl rfl ?_
        refine VH.mv (fun w' hS => Rn.move rfl) rfl rfl rfl rfl ?_
        refine VH.mv (fun w' hS => Rn.move rfl) rfl rfl rfl rfl ?_
        refine VH.mv (fun w' hS => Rn.move rfl) rfl rfl rfl rfl ?_
        refine VH.mv (fun w' hS => Rn.len Tryz.underlying46 rfl) rfl rfl rfl rfl ?_
        refine VH.mv (fun w' hS => Rn.sub rfl rfl (by rw [IntKind.wrap_i64]; omega)) rfl rfl rfl rfl ?_
        refine VH.mv (fun w' hS => Rn.indexS Tryz.underlying46 Tryz.sizeOf5 rfl rfl (sa_26.sl.ne (by omega)) (by omega) (by omega)) rfl rfl rfl rfl ?_
        refine VH.mv (fun w' hS => Rn.load Tryz.isAgg5 rfl (last_get ((sa_26).to hS (by intro q h1 h2 hx h3; omega)).sl hbl)) rfl rfl rfl rfl ?_
        refine VH.mv (fun w' hS => Rn.neqF rfl rfl rfl) rfl rfl rfl rfl ?_
        refine VH.mv (fun w' hS => Rn.pick_false rfl rfl) rfl rfl rfl rfl ?_
        refine VH.done ?_
        refine VO.nil ?_
        refine VQ.noPanic ?_
        refine VQ.then_code ?_
        refine VC.cond_false rfl ?_
        refine VC.skip ?_
        refine VQ.then_code ?_
        refine VC.seq ?_
        refine VC.seq ?_
        refine VC.region ?_
        refine VO.wk (Wk.alloc Tryz.zeroValue3) rfl rfl rfl ?_
        rintro _ w29 ⟨p29, rfl, N29⟩
        have c29 := N29.ch
        have e29 := N29.p; have z29 := N29.size
        have b19 := Bk.new N29
        refine VO.wk0 (Wk.put Tryz.sizeOf3 rfl rfl rfl rfl b19 rfl) rfl rfl ?_
        intro _ w30 Z30
        have c30 := Z30.ch; have z30 := Z30.size
        have b19_30 := Bk.put Z30
        refine VO.nil ?_
        refine VQ.then_code ?_
        refine VC.block ?_
        have cc_28_30 : Ch No w28 w30 := (Ch.then (E := No) c29 c30 (by intro q h1 h2; rcases h2 with h2 | h2 <;> first | exact h2 | (exfalso; omega)))
        have so_30 := so28.keep cc_28_30
        have nl_27 := nl_26.keep c27
        have nl_28 := nl_27.to c28 (by first | exact fun _ _ _ _ => id | (intro q h1 h2 hx h3; omega))
        have nl_30 := nl_28.keep cc_28_30
        have b12_27 := b12_26.keep c27
        have b12_28 := b12_27.to c28 (by first | exact id | omega)
        have b12_30 := b12_28.keep cc_28_30
        have b4_27 := b4_26.keep c27
        have b4_28 := b4_27.to c28 (by first | exact id | omega)
        have b4_30 := b4_28.keep cc_28_30
        have b5_27 := b5_26.keep c27
        have b5_28 := b5_27.to c28 (by first | exact id | omega)
        have b5_30 := b5_28.keep cc_28_30
        have b6_27 := b6_26.keep c27
        have b6_28 := b6_27.to c28 (by first | exact id | omega)
        have b6_30 := b6_28.keep cc_28_30
        have b7_27 := b7_26.keep c27
        have b7_28 := b7_27.to c28 (by first | exact id | omega)
        have b7_30 := b7_28.keep cc_28_30
        have sc_27 := sc_26.keep c27
        have sc_28 := sc_27.to c28 (by first | exact fun _ _ _ _ => id | (intro q h1 h2 hx h3; have := hS q h2; omega))
        have sc_30 := sc_28.keep cc_28_30
        have lt_27 := lt_26.keep c27
        have lt_28 := lt_27.to c28 (by first | exact fun _ _ _ _ => id | (intro q h1 h2 hx h3; have := hS q h2; omega))
        have lt_30 := lt_28.keep cc_28_30
        have er_27 := er_26.keep c27
        have er_28 := er_27.to c28 (by first | exact fun _ _ _ _ => id | (intro q h1 h2 hx h3; omega))
        have er_30 := er_28.keep cc_28_30
        have st_28 := st_27.to c28 (by first | exact fun _ _ _ _ => id | (intro q h1 h2 hx h3; omega))
        have st_30 := st_28.keep cc_28_30
        have tab_23 := tab_21.keep c23
        have tab_24 := tab_23.to c24 (by first | exact fun _ _ _ _ => id | (intro q h1 h2 hx h3; omega))
        have tab_25 := tab_24.to c25 (by first | exact fun _ _ _ _ => id | (intro q h1 h2 hx h3; omega))
        have tab_27 := tab_25.keep (c26.trans c27)
        have tab_28 := tab_27.to c28 (by first | exact fun _ _ _ _ => id | (intro q h1 h2 hx h3; omega))
        have tab_30 := tab_28.keep cc_28_30
        have bn_27 := bn_26.keep c27
        have bn_28 := bn_27.to c28 (by first | exact id | omega)
        have bn_30 := bn_28.keep cc_28_30
        have cn_27 := cn_26.keep c27
        have cn_28 := cn_27.to c28 (by first | exact fun _ _ _ _ => id | (intro q h1 h2 hx h3; omega))
        have cn_30 := cn_28.keep cc_28_30
        have CH_23 := CH_21.and c23
        have CH_24 : Ch (No) w w24 := CH_23.then c24 (by intro q h1 h2; rcases h2 with h2 | h2 <;> first | exact h2 | (exfalso; omega) | omega)
        have CH_25 : Ch (No) w w25 := CH_24.then c25 (by intro q h1 h2; rcases h2 with h2 | h2 <;> first | exact h2 | (exfalso; omega) | omega)
        have CH_27 := CH_25.and (c26.trans c27)
        have CH_28 : Ch (No) w w28 := CH_27.then c28 (by intro q h1 h2; rcases h2 with h2 | h2 <;> first | exact h2 | (exfalso; omega) | omega)
        have CH_30 := CH_28.and cc_28_30
        refine VC.loopN (σ := Nat × Nat × List Nat × Nat × List Nm × List (Nm × Value)) (fun (tn, p19, ds, rr, L2, m2) => ⟨202, dsF ds⟩) (fun (tn, p19, ds, rr, L2, m2) => [(4, .pointer (some ⟨p1, 0, none⟩)), (5, .pointer (some ⟨p2, 0, none⟩)), (6, .pointer (some ⟨p3, 0, none⟩)), (7, .pointer (some ⟨p6, 0, none⟩)), (12, .pointer (some ⟨p15, 0, none⟩)), (14, .func (.func 28) #[] #[.pointer (some ⟨pn, 0, none⟩)]), (19, .pointer (some ⟨p19, 0, none⟩))]) (fun (tn, p19, ds, rr, L2, m2) w' => tn ≤ 2 ∧ (∀ q ∈ ds, pn < q ∧ q < p19) ∧ (tn = 0 → ds = []) ∧ (rr = r ∨ w30.heap.size < rr) ∧ rr ≠ p19 + 1 ∧ pn < p19 ∧ rc ≤ p19 ∧ w30.heap.size ≤ w'.heap.size ∧ StN w' qS mbS rr 5 L2 m2 ∧ Bk w' p19 #[.int .i64 tn] 3 ∧ Dfs w' w.heap.size ds ∧ Ow w' rn 9 1 nA L.length nc (L.map strV) ∧ Bk w' p15 #[.slice nA L.length nc] 30 ∧ Bk w' p1 #[.slice AT LT.length cT] 22 ∧ Bk w' p2 #[.int .i64 stop] 3 ∧ Bk w' p3 #[.bool false] 4 ∧ Bk w' p6 #[.pointer (some ⟨qS, 0, none⟩)] 25 ∧ SlR S w' A SC.length 4 (flatO SC) ∧ SlR S w' AT LT.length 4 (flatO LT) ∧ ErrT B E w' ∧ StT w' ∧ TabB w.heap.size w' ∧ Bk w' pn #[.slice cA L.length cC] 30 ∧ Ow w' rc 9 1 cA L.length cC (L.map strV) ∧ Ch (No) w w') (fun (tn, p19, ds, rr, L2, m2) => 2 - tn) (0, p29, [], r, L, m) rfl ?_ ⟨rfl, rfl, rfl, rfl, rfl, rfl, rfl, trivial⟩ ?_
        · exact ⟨(by omega), (by simp), (fun _ => rfl), (.inl rfl), (by omega), (by omega), (by omega), (Nat.le_refl _), so_30.nn, b19_30, (Dfs.nil _ _), nl_30, b12_30, b4_30, b5_30, b6_30, b7_30, sc_30, lt_30, er_30, st_30, tab_30, bn_30, cn_30, CH_30⟩
        rintro ⟨tn, p19, ds, rr, L2, m2⟩ w31 ⟨htn, hds, hds0, hrr, hr19, hp19, hrc19, hsz31, so_31, b19_31, dfs_31, nl_31, b12_31, b4_31, b5_31, b6_31, b7_31, sc_31, lt_31, er_31, st_31, tab_31, bn_31, cn_31, CH_31⟩
        show VC _ _ _ _ [(4, .pointer (some ⟨p1, 0, none⟩)), (5, .pointer (some ⟨p2, 0, none⟩)), (6, .pointer (some ⟨p3, 0, none⟩)), (7, .pointer (some ⟨p6, 0, none⟩)), (12, .pointer (some ⟨p15, 0, none⟩)), (14, .func (.func 28) #[] #[.pointer (some ⟨pn, 0, none⟩)]), (19, .pointer (some ⟨p19, 0, none⟩))] _
        have lso4 := so_31.lt
        have lb194 := b19_31.lt
        have ty2_0 : w.heap.size ≤ p1 := by omega
        have ty2_1 : p1 < p2 := by omega
        have ty2_2 : p2 < p3 := by omega
        have ty2_3 : p3 < qS := by omega
        have ty2_4 : p3 < mbS := by omega
        have ty2_5 : qS < p6 := by omega
        have ty2_6 : mbS < p6 := by omega
        have ty2_7 : (r = 0 ∨ p6 + 1 < r) := by omega
        have ty2_8 : r < rn := by omega
        have ty2_9 : p6 + 1 < rn := by omega
        have ty2_10 : rn ≤ p15 := by omega
        have ty2_11 : p15 < pn := by omega
        have ty2_12 : (rc = 0 ∨ p15 + 1 < rc) := by omega
        have ty2_13 : rc ≠ pn + 1 := by omega
        have ty2_14 : SC.length + LT.length ≤ 200 := by omega
        have ty2_15 : L.length ≤ 5 := by omega
        have ty2_16 : (rr = r ∨ (pn + 1 < rr ∧ rc < rr)) := by omega
        have ty2_17 : p19 < w31.heap.size := by omega
        have ty2_18 : rr ≤ w31.heap.size := by omega
        clear lb194 lso4 CH_30 CH_28 CH_27 CH_25 CH_24 CH_23 cn_30 cn_28 cn_27 bn_30 bn_28 bn_27 tab_30 tab_28 tab_27 tab_25 tab_24 tab_23 st_30 st_28 er_30 er_28 er_27 lt_30 lt_28 lt_27 sc_30 sc_28 sc_27 b7_30 b7_28 b7_27 b6_30 b6_28 b6_27 b5_30 b5_28 b5_27 b4_30 b4_28 b4_27 b12_30 b12_28 b12_27 nl_30 nl_28 nl_27 so_30 b19_30 z30 c30 Z30 b19 z29 e29 c29 N29 RD_28 z28 ls28 lsd28 c28 st_27 st_25 st_24 st_23 so_27 RD_27 z27 c27 nm_26 l102o_26 l102o_25 l102o_24 sc2_26 sc2_25 sc2_24 sc2_23 sa_26 sa_25 cn_26 cn_25 cn_24 cn_23 bn_26 bn_25 bn_24 bn_23 b12_26 b12_25 b12_24 b12_23 nl_26 nl_25 nl_24 nl_23 b7_26 b7_25 b6_26 b6_25 b6_24 b6_23 b5_26 b5_25 b5_24 b5_23 b4_26 b4_25 b4_24 b4_23 er_26 er_25 er_24 er_23 lt_26 lt_25 lt_24 lt_23 sc_26 sc_25 sc_24 sc_23 z26 c26 D26 z25 lnm25 c25 so_24 so_23 b7_24 b7_23 y24 z24 c24 sa_23 l102o l102 z23 e23 c23 N23 CH_21
        refine VC.seq ?_
        refine VC.seq ?_
        refine VC.region ?_
        refine VO.mv (Rn.load Tryz.isAgg3 rfl (b19_31.cell rfl)) rfl rfl rfl ?_
        refine VO.mv (Rn.lss rfl rfl) rfl rfl rfl ?_
        refine VO.nil ?_
        refine VQ.then_code ?_
        refine VC.cond_if rfl (fun hc4 => ?_) (fun hc4 => ?_)
        · skip
          refine VC.skip ?_
          refine VQ.then_code ?_
          refine VC.seq ?_
          refine VC.block ?_
          refine VC.seq ?_
          refine VC.region ?_
          refine VO.wk (Wk.alloc Tryz.zeroValue3) rfl rfl rfl ?_
          rintro _ w32 ⟨p32, rfl, N32⟩
          have c32 := N32.ch
          have e32 := N32.p; have z32 := N32.size
          have b20 := Bk.new N32
          refine VO.wk0 (Wk.put Tryz.sizeOf3 rfl rfl rfl rfl b20 rfl) rfl rfl ?_
          intro _ w33 Z33
          have c33 := Z33.ch; have z33 := Z33.size
          have b20_33 := Bk.put Z33
          refine VO.nil ?_
          refine VQ.then_code ?_
          refine VC.seq ?_
          refine VC.seq ?_
          refine VC.region ?_
          refine VO.mv (Rn.move rfl) rfl rfl rfl ?_
          refine VO.nil ?_
          refine VQ.then_code ?_
          refine VC.block ?_
          have cc_31_33 : Ch No w31 w33 := (Ch.then (E := No) c32 c33 (by intro q h1 h2; rcases h2 with h2 | h2 <;> first | exact h2 | (exfalso; omega)))
          have cn_33 := cn_31.keep cc_31_33
          have bn_33 := bn_31.keep cc_31_33
          have lrc := cn_33.lt; have lbnX := bn_33.lt; have lb20 := b20_33.lt
          refine VC.rangeFunc rfl Tryz.call28 (names_stops pn rc cA cC L (by omega) _ bn_33 cn_33) (fun h h' => KpR.trans h h') (KpR.putObj (B := w33.heap.size) (by omega) (by omega)) (Below.refl _ _) rfl rfl (fun pre W => ∃ r5 L5 m5, pre = L.take pre.length ∧ (r5 = rr ∨ w33.heap.size < r5) ∧ StN W qS mbS r5 5 L5 m5 ∧ Bk W p19 #[.int .i64 tn] 3 ∧ Bk W p32 #[.int .i64 pre.length] 3 ∧ Dfs W w.heap.size ds ∧ Ow W rn 9 1 nA L.length nc (L.map strV) ∧ Bk W p15 #[.slice nA L.length nc] 30 ∧ Bk W p1 #[.slice AT LT.length cT] 22 ∧ Bk W p2 #[.int .i64 stop] 3 ∧ Bk W p3 #[.bool false] 4 ∧ Bk W p6 #[.pointer (some ⟨qS, 0, none⟩)] 25 ∧ SlR S W A SC.length 4 (flatO SC) ∧ SlR S W AT LT.length 4 (flatO LT) ∧ ErrT B E W ∧ StT W ∧ TabB w.heap.size W ∧ Bk W pn #[.slice cA L.length cC] 30 ∧ Ow W rc 9 1 cA L.length cC (L.map strV) ∧ Ch No w W ∧ w33.heap.size ≤ W.heap.size) (fun c pre W => (c = .ret ∧ pre ≠ L.take pre.length) ∨ (c = .exit 6 ∧ tn = 0 ∧ stop < pre.length ∧ ∃ r5 L5 m5, pre = L.take pre.length ∧ (r5 = rr ∨ w33.heap.size < r5) ∧ StN W qS mbS r5 5 L5 m5 ∧ Bk W p19 #[.int .i64 tn] 3 ∧ Bk W p32 #[.int .i64 pre.length] 3 ∧ Dfs W w.heap.size ds ∧ Ow W rn 9 1 nA L.length nc (L.map strV) ∧ Bk W p15 #[.slice nA L.length nc] 30 ∧ Bk W p1 #[.slice AT LT.length cT] 22 ∧ Bk W p2 #[.int .i64 stop] 3 ∧ Bk W p3 #[.bool false] 4 ∧ Bk W p6 #[.pointer (some ⟨qS, 0, none⟩)] 25 ∧ SlR S W A SC.length 4 (flatO SC) ∧ SlR S W AT LT.length 4 (flatO LT) ∧ ErrT B E W ∧ StT W ∧ TabB w.heap.size W ∧ Bk W pn #[.slice cA L.length cC] 30 ∧ Ow W rc 9 1 cA L.length cC (L.map strV) ∧ Ch No w W ∧ w33.heap.size ≤ W.heap.size)) ?_ ?_ ?_ ?_ ?_ ?_
          · skip
            rintro s A2 W2 row ⟨r5, L5, m5, hpre, hr5, i_so, i_b19, i_b20, i_dfs, i_nl, i_b12, i_b4, i_b5, i_b6, i_b7, i_sc, i_lt, i_er, i_st, i_tab, i_bn, i_cn, iCH, hszR⟩ hg hr
            have g := Gn.of hg hr
            exact ⟨r5, L5, m5, hpre, hr5, (gSn i_so g (by omega)), i_b19.toG g, i_b20.toG g, (i_dfs.toG g (fun q hq => by have := hds q hq; omega)), i_nl.toG g, i_b12.toG g, i_b4.toG g, i_b5.toG g, i_b6.toG g, i_b7.toG g, (gSl i_sc g), (gSl i_lt g), (gErr i_er g), (gSt i_st g), (gTab i_tab g), i_bn.toG g, i_cn.toG g, iCH.toG g (by omega), Nat.le_trans hszR g.size⟩
          · skip
            rintro cc s A2 W2 row (hx | ⟨h1, h2, h3, r5, L5, m5, hpre, hr5, i_so, i_b19, i_b20, i_dfs, i_nl, i_b12, i_b4, i_b5, i_b6, i_b7, i_sc, i_lt, i_er, i_st, i_tab, i_bn, i_cn, iCH, hszR⟩) hg hr
            · exact .inl hx
            have g := Gn.of hg hr
            refine .inr ⟨h1, h2, h3, ?_⟩
            exact ⟨r5, L5, m5, hpre, hr5, (gSn i_so g (by omega)), i_b19.toG g, i_b20.toG g, (i_dfs.toG g (fun q hq => by have := hds q hq; omega)), i_nl.toG g, i_b12.toG g, i_b4.toG g, i_b5.toG g, i_b6.toG g, i_b7.toG g, (gSl i_sc g), (gSl i_lt g), (gErr i_er g), (gSt i_st g), (gTab i_tab g), i_bn.toG g, i_cn.toG g, iCH.toG g (by omega), Nat.le_trans hszR g.size⟩
          · skip
            have so_33 := so_31.keep cc_31_33
            have b19_33 := b19_31.keep cc_31_33
            have dfs_33 := dfs_31.keep cc_31_33
            have nl_33 := nl_31.keep cc_31_33
            have b12_33 := b12_31.keep cc_31_33
            have b4_33 := b4_31.keep cc_31_33
            have b5_33 := b5_31.keep cc_31_33
            have b6_33 := b6_31.keep cc_31_33
            have b7_33 := b7_31.keep cc_31_33
            have sc_33 := sc_31.keep cc_31_33
            have lt_33 := lt_31.keep cc_31_33
            have er_33 := er_31.keep cc_31_33
            have st_33 := st_31.keep cc_31_33
            have tab_33 := tab_31.keep cc_31_33
            have CH_33 := CH_31.and cc_31_33
            exact ⟨_, _, _, rfl, .inl rfl, so_33, b19_33, b20_33, dfs_33, nl_33, b12_33, b4_33, b5_33, b6_33, b7_33, sc_33, lt_33, er_33, st_33, tab_33, bn_33, cn_33, CH_33, Nat.le_refl _⟩
          · skip
            rintro l pre x w34 ⟨r5, L5, m5, hpre, hr5, so_34, b19_34, b20_34, dfs_34, nl_34, b12_34, b4_34, b5_34, b6_34, b7_34, sc_34, lt_34, er_34, st_34, tab_34, bn_34, cn_34, CH_34, hszR⟩ hlen
            have lsoR := so_34.lt
            have lb20R := b20_34.lt
            have soRC := so_34.isC
            have b20R := b20_34.blk
            have ty3_0 : p19 < p32 := by omega
            have ty3_1 : p32 < w34.heap.size := by omega
            have ty3_2 : (r5 = rr ∨ p32 + 1 < r5) := by omega
            have ty3_3 : r5 ≤ w34.heap.size := by omega
            have ty3_4 : rr ≤ p32 := by omega
            clear lb20R lsoR bn_33 cn_33 b20_33 z33 c33 Z33 b20 z32 e32 c32 N32 CH_31
            have n5_0 : ¬ (r5 = p1 + 1) := by omega
            have n5_1 : ¬ (r5 = p2 + 1) := by omega
            have n5_2 : ¬ (r5 = p3 + 1) := by omega
            have n5_3 : ¬ (r5 = p6 + 1) := by omega
            have n5_4 : ¬ (r5 = p15 + 1) := by omega
            have n5_5 : ¬ (r5 = pn + 1) := by omega
            have n5_6 : ¬ (r5 = p19 + 1) := by omega
            have n5_7 : ¬ (r5 = p32 + 1) := by omega
            have a5_0 : Ap r5 rn := ⟨fun q h h' => by omega⟩
            have a5_1 : Ap r5 rc := ⟨fun q h h' => by omega⟩
            have q5_0 : ¬ (rc = qS + 1) := by omega
            have q5_1 : ¬ (rc = mbS + 1) := by omega
            have q5_2 : ¬ (rc = p3 + 1) := by omega
            have fr5 : Fr0 w.heap.size r5 := ⟨fun q hq h => by omega⟩
            have hr5R := RO.mk hr5
            clear ty3_2 ty2_16 ty2_12 ty2_7 ty1_17 ty1_16 ty1_12 ty1_7 hrr hr5
            refine VC.block ?_
            refine VC.seq ?_
            refine VC.seq ?_
            obtain ⟨y, hy⟩ : ∃ y, L[pre.length]? = some y := ⟨_, List.getElem?_eq_getElem hlen⟩
            refine VC.regionR rfl ?_
            refine VO.mv (Rn.load Tryz.isAgg3 rfl (b20_34.cell rfl)) rfl rfl rfl ?_
            refine VO.mv (Rn.load Tryz.isAgg30 rfl (b12_34.cell rfl)) rfl rfl rfl ?_
            refine VO.mv (Rn.len Tryz.underlying30 rfl) rfl rfl rfl ?_
            refine VO.mv (Rn.geqF rfl rfl (by omega)) rfl rfl rfl ?_
            refine VO.mv (Rn.move rfl) rfl rfl rfl ?_
            refine VO.mv (Rn.move rfl) rfl rfl rfl ?_
            refine VO.mv (Rn.load Tryz.isAgg30 rfl (b12_34.cell rfl)) rfl rfl rfl ?_
            refine VO.mv (Rn.load Tryz.isAgg3 rfl (b20_34.cell rfl)) rfl rfl rfl ?_
            refine VO.mv (Rn.indexS Tryz.underlying30 Tryz.sizeOf9 rfl rfl (nl_34.sl.ne (by omega)) (by omega) (by omega)) rfl rfl rfl ?_
            refine VO.mv (Rn.load Tryz.isAgg9 rfl (nl_34.sl.one (by omega) (by rw [List.getElem?_map, show L[((pre.length : Int)).toNat]? = some y from hy]; rfl))) rfl rfl rfl ?_
            refine VO.mv (Rn.nm_neq rfl rfl) rfl rfl rfl ?_
            refine VO.mv (Rn.pick_false rfl rfl) rfl rfl rfl ?_
            refine VO.nil ?_
            refine VQ.noPO ?_
            refine VQ.then_code ?_
            refine VC.cond_if rfl (fun hc5 => ?_) (fun hc5 => ?_)
            · skip
              refine VC.seq ?_
              refine VC.regionR rfl ?_
              refine VO.wk0 (Wk.put Tryz.sizeOf4 rfl rfl rfl rfl b6_34 rfl) rfl rfl ?_
              intro _ w35 Z35
              have c35 := Z35.ch; have z35 := Z35.size
              have b6_35 := Bk.put Z35
              refine VO.nil ?_
              refine VQ.noPO ?_
              refine VQ.then_code ?_
              refine VC.ret ?_
              refine VQ.then_ret ?_
              refine VQ.block_ret ?_
              have CR_35 : Ch (fun y => y = qS ∨ y = mbS ∨ r5 = y + 1 ∨ y = p32 ∨ y = p3) w34 w35 := (Ch.refl (fun y => y = qS ∨ y = mbS ∨ r5 = y + 1 ∨ y = p32 ∨ y = p3) w34).then c35 (by intro q h1 h2; rcases h2 with h2 | h2 <;> first | exact h2 | exact .inr (.inr (.inr (.inl h2))) | exact .inr (.inr (.inr (.inr h2))) | (rcases h2 with h2 | h2 | h2 <;> first | exact .inl h2 | exact .inr (.inl h2) | exact .inr (.inr (.inl h2)) | exact .inr (.inr (.inl (RO.back (by assumption) (by omega) h2)))))
              refine VQ.roundT CR_35 (fun z hz => by rcases hz with hz | hz | hz | hz | hz <;> first | (right; exact soRC z hz) | (right; subst hz; exact ⟨_, _, _, b20R⟩) | (left; omega)) (.inl ⟨rfl, ?_⟩)
              exact nx_ne hy hc5
            · skip
              have hxy := Classical.byContradiction hc5
              refine VC.skip ?_
              refine VQ.then_code ?_
              refine VC.seq ?_
              refine VC.seq ?_
              refine VC.regionR rfl ?_
              refine VO.mv (Rn.load Tryz.isAgg3 rfl (b19_34.cell rfl)) rfl rfl rfl ?_
              refine VO.mv (Rn.eql rfl rfl) rfl rfl rfl ?_
              refine VO.mv (Rn.move rfl) rfl rfl rfl ?_
              refine VO.andJoin (b := _) 5 154 159 rfl (fun hc6 Jhc6 => by
                  try simp only [Bool.and_eq_true, Bool.or_eq_true, Bool.not_eq_true', Bool.not_eq_false', Bool.and_eq_false_iff, Bool.or_eq_false_iff, decide_eq_true_eq, decide_eq_false_iff_not] at hc6
                  refine VO.mv (Rn.load Tryz.isAgg3 rfl (b20_34.cell rfl)) rfl rfl rfl ?_
                  refine VO.mv (Rn.load Tryz.isAgg22 rfl (b4_34.cell rfl)) rfl rfl rfl ?_
                  refine VO.mv (Rn.len Tryz.underlying22 rfl) rfl rfl rfl ?_
                  refine VO.mv (Rn.lss rfl rfl) rfl rfl rfl ?_
                  refine VO.mv (Rn.pick_true rfl rfl) rfl rfl rfl ?_
                  exact (VO.fg rfl (VO.fg rfl (VO.fg rfl (VO.fg rfl Jhc6))))) (fun hc6 Jhc6 => by
                  refine VO.skip rfl rfl rfl ?_
                  refine VO.skip rfl rfl rfl ?_
                  refine VO.skip rfl rfl rfl ?_
                  refine VO.skip rfl rfl rfl ?_
                  refine VO.mv (Rn.pick_false rfl rfl) rfl rfl rfl ?_
                  exact (VO.fg rfl (VO.fg rfl (VO.fg rfl (VO.fg rfl Jhc6))))) ?_
              refine VO.nil ?_
              refine VQ.noPO ?_
              refine VQ.then_code ?_
              refine VC.cond rfl (fun hc7 => ?_) (fun hc7 => ?_)
              · skip
                try simp only [Bool.and_eq_true, Bool.or_eq_true, Bool.not_eq_true', Bool.not_eq_false', Bool.and_eq_false_iff, Bool.or_eq_false_iff, decide_eq_true_eq, decide_eq_false_iff_not] at hc7
                refine VC.seq ?_
                have hdsE := hds0 (by omega)
                refine VC.regionR rfl ?_
                refine VO.mv (Rn.load Tryz.isAgg25 rfl (b7_34.cell rfl)) rfl rfl rfl ?_
                refine VO.mv (Rn.move rfl) rfl rfl rfl ?_
                refine VO.wk (Wk.call Tryz.call16 rfl (sn_Drop 5 qS mbS r5 L5 m5 x _ so_34 (by omega))) rfl rfl rfl ?_
                rintro _ w36 ⟨L36, m36, so36, c36⟩
                have ls36 := so36.lt
                have z36 := c36.size
                refine VO.nil ?_
                refine VQ.noPO ?_
                refine VQ.then_code ?_
                refine VC.seq ?_
                obtain ⟨o, ho⟩ : ∃ o, LT[pre.length]? = some o := ⟨_, List.getElem?_eq_getElem (by omega)⟩
                have lt_36 := lt_34.to c36 (by first | exact fun _ _ _ _ => id | (intro q h1 h2 h3 h4; (try have hSq := hSS q h2); rcases h4 with h4 | h4 | h4 <;> first | exact Ap.ne (by assumption) q h4 h2 | (subst h4; exact absurd h2 (by assumption)) | exact absurd h4 (Fr0.ne (N := w.heap.size) (by assumption) q (by omega)) | omega) | (intro q h1 h2 h3 h4; omega))
                have kl := sl_op lt_36 rfl ho
                refine VC.drawsR 9 [(0, true), (1, true), (2, true), (3, true), (4, true), (5, true), (6, true), (7, false), (8, false)] (fun w1 w' => Ch (QS qS mbS r5) w1 w') mixed rfl (by kernel_rfl) (fun _ _ => Ch.refl _ _) ?_
                intro w37 D37
                have c37 := Ch.of_drew D37; have z37 := c37.size
                have b19_36 := b19_34.to c36 (by first | exact id | (intro h; rcases h with h | h | h <;> first | exact absurd h (by assumption) | omega) | omega)
                have b19_37 := b19_36.keep c37
                have b20_36 := b20_34.to c36 (by first | exact id | (intro h; rcases h with h | h | h <;> first | exact absurd h (by assumption) | omega) | omega)
                have b20_37 := b20_36.keep c37
                have nl_36 := nl_34.to c36 (by first | exact fun _ _ _ _ => id | (intro q h1 h2 h3 h4; (try have hSq := hSS q h2); rcases h4 with h4 | h4 | h4 <;> first | exact Ap.ne (by assumption) q h4 h2 | (subst h4; exact absurd h2 (by assumption)) | exact absurd h4 (Fr0.ne (N := w.heap.size) (by assumption) q (by omega)) | omega) | (intro q h1 h2 h3 h4; omega))
                have nl_37 := nl_36.keep c37
                have b12_36 := b12_34.to c36 (by first | exact id | (intro h; rcases h with h | h | h <;> first | exact absurd h (by assumption) | omega) | omega)
                have b12_37 := b12_36.keep c37
                have b4_36 := b4_34.to c36 (by first | exact id | (intro h; rcases h with h | h | h <;> first | exact absurd h (by assumption) | omega) | omega)
                have b4_37 := b4_36.keep c37
                have b5_36 := b5_34.to c36 (by first | exact id | (intro h; rcases h with h | h | h <;> first | exact absurd h (by assumption) | omega) | omega)
                have b5_37 := b5_36.keep c37
                have b6_36 := b6_34.to c36 (by first | exact id | (intro h; rcases h with h | h | h <;> first | exact absurd h (by assumption) | omega) | omega)
                have b6_37 := b6_36.keep c37
                have b7_36 := b7_34.to c36 (by first | exact id | (intro h; rcases h with h | h | h <;> first | exact absurd h (by assumption) | omega) | omega)
                have b7_37 := b7_36.keep c37
                have sc_36 := sc_34.to c36 (by first | exact fun _ _ _ _ => id | (intro q h1 h2 h3 h4; (try have hSq := hSS q h2); rcases h4 with h4 | h4 | h4 <;> first | exact Ap.ne (by assumption) q h4 h2 | (subst h4; exact absurd h2 (by assumption)) | exact absurd h4 (Fr0.ne (N := w.heap.size) (by assumption) q (by omega)) | omega) | (intro q h1 h2 h3 h4; omega))
                have sc_37 := sc_36.keep c37
                have lt_37 := lt_36.keep c37
                have er_36 := er_34.to c36 (by first | exact fun _ _ _ _ => id | (intro q h1 h2 h3 h4; (try have hSq := hSS q h2); rcases h4 with h4 | h4 | h4 <;> first | exact Ap.ne (by assumption) q h4 h2 | (subst h4; exact absurd h2 (by assumption)) | exact absurd h4 (Fr0.ne (N := w.heap.size) (by assumption) q (by omega)) | omega) | (intro q h1 h2 h3 h4; omega))
                have er_37 := er_36.keep c37
                have bn_36 := bn_34.to c36 (by first | exact id | (intro h; rcases h with h | h | h <;> first | exact absurd h (by assumption) | omega) | omega)
                have bn_37 := bn_36.keep c37
                have cn_36 := cn_34.to c36 (by first | exact fun _ _ _ _ => id | (intro q h1 h2 h3 h4; (try have hSq := hSS q h2); rcases h4 with h4 | h4 | h4 <;> first | exact Ap.ne (by assumption) q h4 h2 | (subst h4; exact absurd h2 (by assumption)) | exact absurd h4 (Fr0.ne (N := w.heap.size) (by assumption) q (by omega)) | omega) | (intro q h1 h2 h3 h4; omega))
                have cn_37 := cn_36.keep c37
                have kl_37 := kl.keep c37
                refine VH.mv (fun w' hS => Rn.load Tryz.isAgg25 rfl ((b7_37.to hS (by first | exact id | (intro h; rcases h with h | h | h <;> first | exact absurd h (by assumption) | omega) | omega)).cell rfl)) rfl rfl rfl rfl ?_
                refine VH.mv (fun w' hS => Rn.load Tryz.isAgg22 rfl ((b4_37.to hS (by first | exact id | (intro h; rcases h with h | h | h <;> first | exact absurd h (by assumption) | omega) | omega)).cell rfl)) rfl rfl rfl rfl ?_
                refine VH.mv (fun w' hS => Rn.load Tryz.isAgg3 rfl ((b20_37.to hS (by first | exact id | (intro h; rcases h with h | h | h <;> first | exact absurd h (by assumption) | omega) | omega)).cell rfl)) rfl rfl rfl rfl ?_
                refine VH.mv (fun w' hS => Rn.indexS Tryz.underlying22 Tryz.sizeOf32 rfl rfl (lt_37.ne (by omega)) (by omega) (by omega)) rfl rfl rfl rfl ?_
                refine VH.mv (fun w' hS => Rn.fieldA Tryz.underlying32 rfl Tryz.sizeOf9 rfl rfl rfl) rfl rfl rfl rfl ?_
                refine VH.mv (fun w' hS => Rn.load Tryz.isAgg9 rfl ((kl_37.to hS (by first | exact fun _ _ _ _ => id | (intro q h1 h2 h3 h4; (try have hSq := hSS q h2); rcases h4 with h4 | h4 | h4 <;> first | exact Ap.ne (by assumption) q h4 h2 | (subst h4; exact absurd h2 (by assumption)) | exact absurd h4 (Fr0.ne (N := w.heap.size) (by assumption) q (by omega)) | omega) | (intro q h1 h2 h3 h4; omega))).1 1 _ rfl)) rfl rfl rfl rfl ?_
                refine VH.mv (fun w' hS => Rn.build rfl (bld32_2w38 rfl)) rfl rfl rfl rfl ?_
                have st_36 := st_34.to c36 (by first | exact fun _ _ _ _ => id | (intro q h1 h2 h3 h4; (try have hSq := hSS q h2); rcases h4 with h4 | h4 | h4 <;> first | exact Ap.ne (by assumption) q h4 h2 | (subst h4; exact absurd h2 (by assumption)) | exact absurd h4 (Fr0.ne (N := w.heap.size) (by assumption) q (by omega)) | omega) | (intro q h1 h2 h3 h4; omega))
                have st_37 := st_36.keep c37
                have tab_36 := tab_34.to c36 (by first | exact fun _ _ _ _ => id | (intro q h1 h2 h3 h4; (try have hSq := hSS q h2); rcases h4 with h4 | h4 | h4 <;> first | exact Ap.ne (by assumption) q h4 h2 | (subst h4; exact absurd h2 (by assumption)) | exact absurd h4 (Fr0.ne (N := w.heap.size) (by assumption) q (by omega)) | omega) | (intro q h1 h2 h3 h4; omega))
                have tab_37 := tab_36.keep c37
                refine VH.wk (Wk.call Tryz.call7 rfl (planOf0 0 1 [] _ st_37 ((tab_37).up (by omega)) (by omega))) rfl rfl rfl rfl ?_
                rintro _ w38 ⟨pp, rpp, rfl, hbp, plp38, c38⟩
                have z38 := c38.size
                have RD_38 := (Ch.refl (QS qS mbS r5) w37).and c38
                refine ⟨RD_38, ?_⟩
                have so_38 := so36.keep (c37.trans c38)
                have er_38 := er_37.keep c38
                refine VH.wk (Wk.call Tryz.call8 rfl (sn_Keep E B pp 5 qS mbS r5 L36 m36 o.nm _ so_38 (by omega) er_38)) rfl rfl rfl rfl ?_
                rintro v39 w39 ⟨r39, L39, m39, so39, yr39, c39⟩
                have ls39 := so39.lt
                have n39_0 : ¬ (r39 = p1 + 1) := fun h => by rcases yr39 with e | e; (exact absurd (e.symm.trans h) (by assumption)); omega
                have n39_1 : ¬ (r39 = p2 + 1) := fun h => by rcases yr39 with e | e; (exact absurd (e.symm.trans h) (by assumption)); omega
                have n39_2 : ¬ (r39 = p3 + 1) := fun h => by rcases yr39 with e | e; (exact absurd (e.symm.trans h) (by assumption)); omega
                have n39_3 : ¬ (r39 = p6 + 1) := fun h => by rcases yr39 with e | e; (exact absurd (e.symm.trans h) (by assumption)); omega
                have n39_4 : ¬ (r39 = p15 + 1) := fun h => by rcases yr39 with e | e; (exact absurd (e.symm.trans h) (by assumption)); omega
                have n39_5 : ¬ (r39 = pn + 1) := fun h => by rcases yr39 with e | e; (exact absurd (e.symm.trans h) (by assumption)); omega
                have n39_6 : ¬ (r39 = p19 + 1) := fun h => by rcases yr39 with e | e; (exact absurd (e.symm.trans h) (by assumption)); omega
                have n39_7 : ¬ (r39 = p32 + 1) := fun h => by rcases yr39 with e | e; (exact absurd (e.symm.trans h) (by assumption)); omega
                have a39_0 : Ap r39 rn := ⟨fun q h h' => by rcases yr39 with e | e; (exact Ap.ne (by assumption) q (e.symm.trans h) h'); omega⟩
                have a39_1 : Ap r39 rc := ⟨fun q h h' => by rcases yr39 with e | e; (exact Ap.ne (by assumption) q (e.symm.trans h) h'); omega⟩
                have fr39 : Fr0 w.heap.size r39 := ⟨fun q hq h => by rcases yr39 with e | e; (exact Fr0.ne (N := w.heap.size) (by assumption) q hq (e.symm.trans h)); omega⟩
                have ro39 := RO.mk yr39; clear yr39
                have z39 := c39.size
                have RD_39 : Ch (QS qS mbS r5) w37 w39 := RD_38.then c39 (by intro q h1 h2; rcases h2 with h2 | h2 <;> first | exact h2 | (exfalso; omega) | omega)
                refine ⟨RD_39, ?_⟩
                refine VH.done ?_
                refine VO.nil ?_
                refine VQ.noPO ?_
                refine VQ.then_code ?_
                refine VC.drawsR 7 [(0, true), (1, true), (2, true), (3, true), (4, true), (5, true), (6, false)] (fun w1 w' => Ch (QS qS mbS r39) w1 w') mixed rfl (by kernel_rfl) (fun _ _ => Ch.refl _ _) ?_
                intro w40 D40
                have c40 := Ch.of_drew D40; have z40 := c40.size
                have b19_38 := b19_37.keep c38
                have b19_39 := b19_38.to c39 (by first | exact id | (intro h; rcases h with h | h | h <;> first | exact absurd h (by assumption) | omega) | omega)
                have b19_40 := b19_39.keep c40
                have b20_38 := b20_37.keep c38
                have b20_39 := b20_38.to c39 (by first | exact id | (intro h; rcases h with h | h | h <;> first | exact absurd h (by assumption) | omega) | omega)
                have b20_40 := b20_39.keep c40
                have nl_38 := nl_37.keep c38
                have nl_39 := nl_38.to c39 (by first | exact fun _ _ _ _ => id | (intro q h1 h2 h3 h4; (try have hSq := hSS q h2); rcases h4 with h4 | h4 | h4 <;> first | exact Ap.ne (by assumption) q h4 h2 | (subst h4; exact absurd h2 (by assumption)) | exact absurd h4 (Fr0.ne (N := w.heap.size) (by assumption) q (by omega)) | omega) | (intro q h1 h2 h3 h4; omega))
                have nl_40 := nl_39.keep c40
                have b12_38 := b12_37.keep c38
                have b12_39 := b12_38.to c39 (by first | exact id | (intro h; rcases h with h | h | h <;> first | exact absurd h (by assumption) | omega) | omega)
                have b12_40 := b12_39.keep c40
                have b4_38 := b4_37.keep c38
                have b4_39 := b4_38.to c39 (by first | exact id | (intro h; rcases h with h | h | h <;> first | exact absurd h (by assumption) | omega) | omega)
                have b4_40 := b4_39.keep c40
                have b5_38 := b5_37.keep c38
                have b5_39 := b5_38.to c39 (by first | exact id | (intro h; rcases h with h | h | h <;> first | exact absurd h (by assumption) | omega) | omega)
                have b5_40 := b5_39.keep c40
                have b6_38 := b6_37.keep c38
                have b6_39 := b6_38.to c39 (by first | exact id | (intro h; rcases h with h | h | h <;> first | exact absurd h (by assumption) | omega) | omega)
                have b6_40 := b6_39.keep c40
                have b7_38 := b7_37.keep c38
                have b7_39 := b7_38.to c39 (by first | exact id | (intro h; rcases h with h | h | h <;> first | exact absurd h (by assumption) | omega) | omega)
                have b7_40 := b7_39.keep c40
                have sc_38 := sc_37.keep c38
                have sc_39 := sc_38.to c39 (by first | exact fun _ _ _ _ => id | (intro q h1 h2 h3 h4; (try have hSq := hSS q h2); rcases h4 with h4 | h4 | h4 <;> first | exact Ap.ne (by assumption) q h4 h2 | (subst h4; exact absurd h2 (by assumption)) | exact absurd h4 (Fr0.ne (N := w.heap.size) (by assumption) q (by omega)) | omega) | (intro q h1 h2 h3 h4; omega))
                have sc_40 := sc_39.keep c40
                have lt_38 := lt_37.keep c38
                have lt_39 := lt_38.to c39 (by first | exact fun _ _ _ _ => id | (intro q h1 h2 h3 h4; (try have hSq := hSS q h2); rcases h4 with h4 | h4 | h4 <;> first | exact Ap.ne (by assumption) q h4 h2 | (subst h4; exact absurd h2 (by assumption)) | exact absurd h4 (Fr0.ne (N := w.heap.size) (by assumption) q (by omega)) | omega) | (intro q h1 h2 h3 h4; omega))
                have lt_40 := lt_39.keep c40
                have er_39 := er_38.to c39 (by first | exact fun _ _ _ _ => id | (intro q h1 h2 h3 h4; (try have hSq := hSS q h2); rcases h4 with h4 | h4 | h4 <;> first | exact Ap.ne (by assumption) q h4 h2 | (subst h4; exact absurd h2 (by assumption)) | exact absurd h4 (Fr0.ne (N := w.heap.size) (by assumption) q (by omega)) | omega) | (intro q h1 h2 h3 h4; omega))
                have er_40 := er_39.keep c40
                have bn_38 := bn_37.keep c38
                have bn_39 := bn_38.to c39 (by first | exact id | (intro h; rcases h with h | h | h <;> first | exact absurd h (by assumption) | omega) | omega)
                have bn_40 := bn_39.keep c40
                have cn_38 := cn_37.keep c38
                have cn_39 := cn_38.to c39 (by first | exact fun _ _ _ _ => id | (intro q h1 h2 h3 h4; (try have hSq := hSS q h2); rcases h4 with h4 | h4 | h4 <;> first | exact Ap.ne (by assumption) q h4 h2 | (subst h4; exact absurd h2 (by assumption)) | exact absurd h4 (Fr0.ne (N := w.heap.size) (by assumption) q (by omega)) | omega) | (intro q h1 h2 h3 h4; omega))
                have cn_40 := cn_39.keep c40
                have kl_38 := kl_37.keep c38
                have kl_39 := kl_38.to c39 (by first | exact fun _ _ _ _ => id | (intro q h1 h2 h3 h4; (try have hSq := hSS q h2); rcases h4 with h4 | h4 | h4 <;> first | exact Ap.ne (by assumption) q h4 h2 | (subst h4; exact absurd h2 (by assumption)) | exact absurd h4 (Fr0.ne (N := w.heap.size) (by assumption) q (by omega)) | omega) | (intro q h1 h2 h3 h4; omega))
                have kl_40 := kl_39.keep c40
                refine VH.mv (fun w' hS => Rn.load Tryz.isAgg25 rfl ((b7_40.to hS (by first | exact id | (intro h; rcases h with h | h | h <;> first | exact absurd h (by assumption) | omega) | omega)).cell rfl)) rfl rfl rfl rfl ?_
                refine VH.mv (fun w' hS => Rn.load Tryz.isAgg22 rfl ((b4_40.to hS (by first | exact id | (intro h; rcases h with h | h | h <;> first | exact absurd h (by assumption) | omega) | omega)).cell rfl)) rfl rfl rfl rfl ?_
                refine VH.mv (fun w' hS => Rn.load Tryz.isAgg3 rfl ((b20_40.to hS (by first | exact id | (intro h; rcases h with h | h | h <;> first | exact absurd h (by assumption) | omega) | omega)).cell rfl)) rfl rfl rfl rfl ?_
                refine VH.mv (fun w' hS => Rn.indexS Tryz.underlying22 Tryz.sizeOf32 rfl rfl (lt_40.ne (by omega)) (by omega) (by omega)) rfl rfl rfl rfl ?_
                refine VH.mv (fun w' hS => Rn.fieldA Tryz.underlying32 rfl Tryz.sizeOf9 rfl rfl rfl) rfl rfl rfl rfl ?_
                refine VH.mv (fun w' hS => Rn.load Tryz.isAgg9 rfl ((kl_40.to hS (by first | exact fun _ _ _ _ => id | (intro q h1 h2 h3 h4; (try have hSq := hSS q h2); rcases h4 with h4 | h4 | h4 <;> first | exact Ap.ne (by assumption) q h4 h2 | (subst h4; exact absurd h2 (by assumption)) | exact absurd h4 (Fr0.ne (N := w.heap.size) (by assumption) q (by omega)) | omega) | (intro q h1 h2 h3 h4; omega))).1 1 _ rfl)) rfl rfl rfl rfl ?_
                have so_40 := so39.keep c40
                refine VH.wk (Wk.call Tryz.call9 rfl (sn_Get E B 5 qS mbS r39 L39 m39 o.nm _ so_40 (by omega) er_40 (by omega))) rfl rfl rfl rfl ?_
                rintro v41 w41 ⟨r41, L41, m41, so41, yr41, c41⟩
                have ls41 := so41.lt
                have n41_7 : ¬ (r41 = p32 + 1) := fun h => by rcases yr41 with e | e; (exact absurd (e.symm.trans h) (by assumption)); omega
                have ro41 := RO.mk yr41; clear yr41
                have z41 := c41.size
                have RD_41 : Ch (QS qS mbS r39) w40 w41 := (Ch.refl (QS qS mbS r39) w40).then c41 (by intro q h1 h2; rcases h2 with h2 | h2 <;> first | exact h2 | (exfalso; omega) | omega)
                refine ⟨RD_41, ?_⟩
                refine VH.done ?_
                refine VO.nil ?_
                refine VQ.noPO ?_
                refine VQ.then_code ?_
                refine VC.seq ?_
                refine VC.regionR rfl ?_
                have b20_41 := b20_40.to c41 (by first | exact id | (intro h; rcases h with h | h | h <;> first | exact absurd h (by assumption) | omega) | omega)
                refine VO.mv (Rn.load Tryz.isAgg3 rfl (b20_41.cell rfl)) rfl rfl rfl ?_
                refine VO.mv (Rn.add rfl rfl (by rw [IntKind.wrap_i64]; omega)) rfl rfl rfl ?_
                refine VO.wk0 (Wk.put Tryz.sizeOf3 rfl rfl rfl rfl b20_41 rfl) rfl rfl ?_
                intro _ w42 Z42
                have c42 := Z42.ch; have z42 := Z42.size
                have b20_42 := Bk.put Z42
                refine VO.nil ?_
                refine VQ.noPO ?_
                refine VQ.then_code ?_
                refine VC.seq ?_
                refine VC.regionR rfl ?_
                have b19_41 := b19_40.to c41 (by first | exact id | (intro h; rcases h with h | h | h <;> first | exact absurd h (by assumption) | omega) | omega)
                have b19_42 := b19_41.to c42 (by first | exact id | (intro h; rcases h with h | h | h <;> first | exact absurd h (by assumption) | omega) | omega)
                refine VO.mv (Rn.load Tryz.isAgg3 rfl (b19_42.cell rfl)) rfl rfl rfl ?_
                refine VO.mv (Rn.eql rfl rfl) rfl rfl rfl ?_
                refine VO.mv (Rn.move rfl) rfl rfl rfl ?_
                have b5_41 := b5_40.to c41 (by first | exact id | (intro h; rcases h with h | h | h <;> first | exact absurd h (by assumption) | omega) | omega)
                have b5_42 := b5_41.to c42 (by first | exact id | (intro h; rcases h with h | h | h <;> first | exact absurd h (by assumption) | omega) | omega)
                refine VO.andJoin (b := _) 4 183 187 rfl (fun hc8 Jhc8 => by
                    try simp only [Bool.and_eq_true, Bool.or_eq_true, Bool.not_eq_true', Bool.not_eq_false', Bool.and_eq_false_iff, Bool.or_eq_false_iff, decide_eq_true_eq, decide_eq_false_iff_not] at hc8
                    refine VO.mv (Rn.load Tryz.isAgg3 rfl (b20_42.cell rfl)) rfl rfl rfl ?_
                    refine VO.mv (Rn.load Tryz.isAgg3 rfl (b5_42.cell rfl)) rfl rfl rfl ?_
                    refine VO.mv (Rn.gtr rfl rfl) rfl rfl rfl ?_
                    refine VO.mv (Rn.pick_true rfl rfl) rfl rfl rfl ?_
                    exact (VO.fg rfl (VO.fg rfl (VO.fg rfl Jhc8)))) (fun hc8 Jhc8 => by
                    refine VO.skip rfl rfl rfl ?_
                    refine VO.skip rfl rfl rfl ?_
                    refine VO.skip rfl rfl rfl ?_
                    refine VO.mv (Rn.pick_false rfl rfl) rfl rfl rfl ?_
                    exact (VO.fg rfl (VO.fg rfl (VO.fg rfl Jhc8)))) ?_
                refine VO.nil ?_
                refine VQ.noPO ?_
                refine VQ.then_code ?_
                refine VC.cond rfl (fun hc9 => ?_) (fun hc9 => ?_)
                · skip
                  try simp only [Bool.and_eq_true, Bool.or_eq_true, Bool.not_eq_true', Bool.not_eq_false', Bool.and_eq_false_iff, Bool.or_eq_false_iff, decide_eq_true_eq, decide_eq_false_iff_not] at hc9
                  refine VC.exit ?_
                  refine VQ.block_other rfl ?_
                  have hl9 : (pre ++ [x]).length = pre.length + 1 := by simp
                  have CR_36 : Ch (fun y => y = qS ∨ y = mbS ∨ r5 = y + 1 ∨ y = p32 ∨ y = p3) w34 w36 := (Ch.refl (fun y => y = qS ∨ y = mbS ∨ r5 = y + 1 ∨ y = p32 ∨ y = p3) w34).then c36 (by intro q h1 h2; rcases h2 with h2 | h2 <;> first | exact h2 | exact .inr (.inr (.inr (.inl h2))) | exact .inr (.inr (.inr (.inr h2))) | (rcases h2 with h2 | h2 | h2 <;> first | exact .inl h2 | exact .inr (.inl h2) | exact .inr (.inr (.inl h2)) | exact .inr (.inr (.inl (RO.back (by assumption) (by omega) h2)))))
                  have CR_38 := CR_36.and (c37.trans c38)
                  have CR_39 : Ch (fun y => y = qS ∨ y = mbS ∨ r5 = y + 1 ∨ y = p32 ∨ y = p3) w34 w39 := CR_38.then c39 (by intro q h1 h2; rcases h2 with h2 | h2 <;> first | exact h2 | exact .inr (.inr (.inr (.inl h2))) | exact .inr (.inr (.inr (.inr h2))) | (rcases h2 with h2 | h2 | h2 <;> first | exact .inl h2 | exact .inr (.inl h2) | exact .inr (.inr (.inl h2)) | exact .inr (.inr (.inl (RO.back (by assumption) (by omega) h2)))))
                  have CR_40 := CR_39.and c40
                  have CR_41 : Ch (fun y => y = qS ∨ y = mbS ∨ r5 = y + 1 ∨ y = p32 ∨ y = p3) w34 w41 := CR_40.then c41 (by intro q h1 h2; rcases h2 with h2 | h2 <;> first | exact h2 | exact .inr (.inr (.inr (.inl h2))) | exact .inr (.inr (.inr (.inr h2))) | (rcases h2 with h2 | h2 | h2 <;> first | exact .inl h2 | exact .inr (.inl h2) | exact .inr (.inr (.inl h2)) | exact .inr (.inr (.inl (RO.back (by assumption) (by omega) h2)))))
                  have CR_42 : Ch (fun y => y = qS ∨ y = mbS ∨ r5 = y + 1 ∨ y = p32 ∨ y = p3) w34 w42 := CR_41.then c42 (by intro q h1 h2; rcases h2 with h2 | h2 <;> first | exact h2 | exact .inr (.inr (.inr (.inl h2))) | exact .inr (.inr (.inr (.inr h2))) | (rcases h2 with h2 | h2 | h2 <;> first | exact .inl h2 | exact .inr (.inl h2) | exact .inr (.inr (.inl h2)) | exact .inr (.inr (.inl (RO.back (by assumption) (by omega) h2)))))
                  refine VQ.roundE CR_42 (fun z hz => by rcases hz with hz | hz | hz | hz | hz <;> first | (right; exact soRC z hz) | (right; subst hz; exact ⟨_, _, _, b20R⟩) | (left; omega)) (.inr ⟨rfl, by omega, by omega, ?_⟩)
                  have hnx := nx_eq hpre hy hxy
                  have so_42 := so41.to c42 (by first | exact fun _ _ _ _ => id | (intro q h1 h2 hx h3; rcases h2 with h2 | h2 | h2 <;> first | (subst h3; exact absurd h2 (by assumption)) | omega))
                  have dfs_36 := dfs_34.to c36 (by first | exact fun _ _ _ _ => id | (intro q h1 h2 h3 h4; first | exact absurd h2 (by rw [hdsE]; simp) | (have := hds q h2; omega)))
                  have dfs_38 := dfs_36.keep (c37.trans c38)
                  have dfs_39 := dfs_38.to c39 (by first | exact fun _ _ _ _ => id | (intro q h1 h2 h3 h4; first | exact absurd h2 (by rw [hdsE]; simp) | (have := hds q h2; omega)))
                  have dfs_40 := dfs_39.keep c40
                  have dfs_41 := dfs_40.to c41 (by first | exact fun _ _ _ _ => id | (intro q h1 h2 h3 h4; first | exact absurd h2 (by rw [hdsE]; simp) | (have := hds q h2; omega)))
                  have dfs_42 := dfs_41.to c42 (by first | exact fun _ _ _ _ => id | (intro q h1 h2 h3 h4; first | exact absurd h2 (by rw [hdsE]; simp) | (have := hds q h2; omega)))
                  have nl_41 := nl_40.to c41 (by first | exact fun _ _ _ _ => id | (intro q h1 h2 h3 h4; (try have hSq := hSS q h2); rcases h4 with h4 | h4 | h4 <;> first | exact Ap.ne (by assumption) q h4 h2 | (subst h4; exact absurd h2 (by assumption)) | exact absurd h4 (Fr0.ne (N := w.heap.size) (by assumption) q (by omega)) | omega) | (intro q h1 h2 h3 h4; omega))
                  have nl_42 := nl_41.to c42 (by first | exact fun _ _ _ _ => id | (intro q h1 h2 h3 h4; (try have hSq := hSS q h2); rcases h4 with h4 | h4 | h4 <;> first | exact Ap.ne (by assumption) q h4 h2 | (subst h4; exact absurd h2 (by assumption)) | exact absurd h4 (Fr0.ne (N := w.heap.size) (by assumption) q (by omega)) | omega) | (intro q h1 h2 h3 h4; omega))
                  have b12_41 := b12_40.to c41 (by first | exact id | (intro h; rcases h with h | h | h <;> first | exact absurd h (by assumption) | omega) | omega)
                  have b12_42 := b12_41.to c42 (by first | exact id | (intro h; rcases h with h | h | h <;> first | exact absurd h (by assumption) | omega) | omega)
                  have b4_41 := b4_40.to c41 (by first | exact id | (intro h; rcases h with h | h | h <;> first | exact absurd h (by assumption) | omega) | omega)
                  have b4_42 := b4_41.to c42 (by first | exact id | (intro h; rcases h with h | h | h <;> first | exact absurd h (by assumption) | omega) | omega)
                  have b6_41 := b6_40.to c41 (by first | exact id | (intro h; rcases h with h | h | h <;> first | exact absurd h (by assumption) | omega) | omega)
                  have b6_42 := b6_41.to c42 (by first | exact id | (intro h; rcases h with h | h | h <;> first | exact absurd h (by assumption) | omega) | omega)
                  have b7_41 := b7_40.to c41 (by first | exact id | (intro h; rcases h with h | h | h <;> first | exact absurd h (by assumption) | omega) | omega)
                  have b7_42 := b7_41.to c42 (by first | exact id | (intro h; rcases h with h | h | h <;> first | exact absurd h (by assumption) | omega) | omega)
                  have sc_41 := sc_40.to c41 (by first | exact fun _ _ _ _ => id | (intro q h1 h2 h3 h4; (try have hSq := hSS q h2); rcases h4 with h4 | h4 | h4 <;> first | exact Ap.ne (by assumption) q h4 h2 | (subst h4; exact absurd h2 (by assumption)) | exact absurd h4 (Fr0.ne (N := w.heap.size) (by assumption) q (by omega)) | omega) | (intro q h1 h2 h3 h4; omega))
                  have sc_42 := sc_41.to c42 (by first | exact fun _ _ _ _ => id | (intro q h1 h2 h3 h4; (try have hSq := hSS q h2); rcases h4 with h4 | h4 | h4 <;> first | exact Ap.ne (by assumption) q h4 h2 | (subst h4; exact absurd h2 (by assumption)) | exact absurd h4 (Fr0.ne (N := w.heap.size) (by assumption) q (by omega)) | omega) | (intro q h1 h2 h3 h4; omega))
                  have lt_41 := lt_40.to c41 (by first | exact fun _ _ _ _ => id | (intro q h1 h2 h3 h4; (try have hSq := hSS q h2); rcases h4 with h4 | h4 | h4 <;> first | exact Ap.ne (by assumption) q h4 h2 | (subst h4; exact absurd h2 (by assumption)) | exact absurd h4 (Fr0.ne (N := w.heap.size) (by assumption) q (by omega)) | omega) | (intro q h1 h2 h3 h4; omega))
                  have lt_42 := lt_41.to c42 (by first | exact fun _ _ _ _ => id | (intro q h1 h2 h3 h4; (try have hSq := hSS q h2); rcases h4 with h4 | h4 | h4 <;> first | exact Ap.ne (by assumption) q h4 h2 | (subst h4; exact absurd h2 (by assumption)) | exact absurd h4 (Fr0.ne (N := w.heap.size) (by assumption) q (by omega)) | omega) | (intro q h1 h2 h3 h4; omega))
                  have er_41 := er_40.to c41 (by first | exact fun _ _ _ _ => id | (intro q h1 h2 h3 h4; (try have hSq := hSS q h2); rcases h4 with h4 | h4 | h4 <;> first | exact Ap.ne (by assumption) q h4 h2 | (subst h4; exact absurd h2 (by assumption)) | exact absurd h4 (Fr0.ne (N := w.heap.size) (by assumption) q (by omega)) | omega) | (intro q h1 h2 h3 h4; omega))
                  have er_42 := er_41.to c42 (by first | exact fun _ _ _ _ => id | (intro q h1 h2 h3 h4; (try have hSq := hSS q h2); rcases h4 with h4 | h4 | h4 <;> first | exact Ap.ne (by assumption) q h4 h2 | (subst h4; exact absurd h2 (by assumption)) | exact absurd h4 (Fr0.ne (N := w.heap.size) (by assumption) q (by omega)) | omega) | (intro q h1 h2 h3 h4; omega))
                  have st_38 := st_37.keep c38
                  have st_39 := st_38.to c39 (by first | exact fun _ _ _ _ => id | (intro q h1 h2 h3 h4; (try have hSq := hSS q h2); rcases h4 with h4 | h4 | h4 <;> first | exact Ap.ne (by assumption) q h4 h2 | (subst h4; exact absurd h2 (by assumption)) | exact absurd h4 (Fr0.ne (N := w.heap.size) (by assumption) q (by omega)) | omega) | (intro q h1 h2 h3 h4; omega))
                  have st_40 := st_39.keep c40
                  have st_41 := st_40.to c41 (by first | exact fun _ _ _ _ => id | (intro q h1 h2 h3 h4; (try have hSq := hSS q h2); rcases h4 with h4 | h4 | h4 <;> first | exact Ap.ne (by assumption) q h4 h2 | (subst h4; exact absurd h2 (by assumption)) | exact absurd h4 (Fr0.ne (N := w.heap.size) (by assumption) q (by omega)) | omega) | (intro q h1 h2 h3 h4; omega))
                  have st_42 := st_41.to c42 (by first | exact fun _ _ _ _ => id | (intro q h1 h2 h3 h4; (try have hSq := hSS q h2); rcases h4 with h4 | h4 | h4 <;> first | exact Ap.ne (by assumption) q h4 h2 | (subst h4; exact absurd h2 (by assumption)) | exact absurd h4 (Fr0.ne (N := w.heap.size) (by assumption) q (by omega)) | omega) | (intro q h1 h2 h3 h4; omega))
                  have tab_38 := tab_37.keep c38
                  have tab_39 := tab_38.to c39 (by first | exact fun _ _ _ _ => id | (intro q h1 h2 h3 h4; (try have hSq := hSS q h2); rcases h4 with h4 | h4 | h4 <;> first | exact Ap.ne (by assumption) q h4 h2 | (subst h4; exact absurd h2 (by assumption)) | exact absurd h4 (Fr0.ne (N := w.heap.size) (by assumption) q (by omega)) | omega) | (intro q h1 h2 h3 h4; omega))
                  have tab_40 := tab_39.keep c40
                  have tab_41 := tab_40.to c41 (by first | exact fun _ _ _ _ => id | (intro q h1 h2 h3 h4; (try have hSq := hSS q h2); rcases h4 with h4 | h4 | h4 <;> first | exact Ap.ne (by assumption) q h4 h2 | (subst h4; exact absurd h2 (by assumption)) | exact absurd h4 (Fr0.ne (N := w.heap.size) (by assumption) q (by omega)) | omega) | (intro q h1 h2 h3 h4; omega))
                  have tab_42 := tab_41.to c42 (by first | exact fun _ _ _ _ => id | (intro q h1 h2 h3 h4; (try have hSq := hSS q h2); rcases h4 with h4 | h4 | h4 <;> first | exact Ap.ne (by assumption) q h4 h2 | (subst h4; exact absurd h2 (by assumption)) | exact absurd h4 (Fr0.ne (N := w.heap.size) (by assumption) q (by omega)) | omega) | (intro q h1 h2 h3 h4; omega))
                  have bn_41 := bn_40.to c41 (by first | exact id | (intro h; rcases h with h | h | h <;> first | exact absurd h (by assumption) | omega) | omega)
                  have bn_42 := bn_41.to c42 (by first | exact id | (intro h; rcases h with h | h | h <;> first | exact absurd h (by assumption) | omega) | omega)
                  have cn_41 := cn_40.to c41 (by first | exact fun _ _ _ _ => id | (intro q h1 h2 h3 h4; (try have hSq := hSS q h2); rcases h4 with h4 | h4 | h4 <;> first | exact Ap.ne (by assumption) q h4 h2 | (subst h4; exact absurd h2 (by assumption)) | exact absurd h4 (Fr0.ne (N := w.heap.size) (by assumption) q (by omega)) | omega) | (intro q h1 h2 h3 h4; omega))
                  have cn_42 := cn_41.to c42 (by first | exact fun _ _ _ _ => id | (intro q h1 h2 h3 h4; (try have hSq := hSS q h2); rcases h4 with h4 | h4 | h4 <;> first | exact Ap.ne (by assumption) q h4 h2 | (subst h4; exact absurd h2 (by assumption)) | exact absurd h4 (Fr0.ne (N := w.heap.size) (by assumption) q (by omega)) | omega) | (intro q h1 h2 h3 h4; omega))
                  have CH_36 : Ch (No) w w36 := CH_34.then c36 (by intro q h1 h2; rcases h2 with h2 | h2 <;> first | exact h2 | (rcases h2 with h2 | h2 | h2 <;> first | exact absurd h2 (Fr0.ne (N := w.heap.size) (by assumption) q h1) | (exfalso; omega)) | (exfalso; omega))
                  have CH_38 := CH_36.and (c37.trans c38)
                  have CH_39 : Ch (No) w w39 := CH_38.then c39 (by intro q h1 h2; rcases h2 with h2 | h2 <;> first | exact h2 | (rcases h2 with h2 | h2 | h2 <;> first | exact absurd h2 (Fr0.ne (N := w.heap.size) (by assumption) q h1) | (exfalso; omega)) | (exfalso; omega))
                  have CH_40 := CH_39.and c40
                  have CH_41 : Ch (No) w w41 := CH_40.then c41 (by intro q h1 h2; rcases h2 with h2 | h2 <;> first | exact h2 | (rcases h2 with h2 | h2 | h2 <;> first | exact absurd h2 (Fr0.ne (N := w.heap.size) (by assumption) q h1) | (exfalso; omega)) | (exfalso; omega))
                  have CH_42 : Ch (No) w w42 := CH_41.then c42 (by intro q h1 h2; rcases h2 with h2 | h2 <;> first | exact h2 | (rcases h2 with h2 | h2 | h2 <;> first | exact absurd h2 (Fr0.ne (N := w.heap.size) (by assumption) q h1) | (exfalso; omega)) | (exfalso; omega))
                  exact ⟨r41, L41, m41, hnx, ((hr5R.trans ro39 (by omega)).trans ro41 (by omega)).or, so_42, b19_42, by rw [hl9]; exact b20_42, dfs_42, nl_42, b12_42, b4_42, b5_42, b6_42, b7_42, sc_42, lt_42, er_42, st_42, tab_42, bn_42, cn_42, CH_42, by omega⟩
                · skip
                  try simp only [Bool.and_eq_true, Bool.or_eq_true, Bool.not_eq_true', Bool.not_eq_false', Bool.and_eq_false_iff, Bool.or_eq_false_iff, decide_eq_true_eq, decide_eq_false_iff_not] at hc9
                  refine VC.skip ?_
                  refine VQ.block_normal ?_
                  have hl9 : (pre ++ [x]).length = pre.length + 1 := by simp
                  have CR_36 : Ch (fun y => y = qS ∨ y = mbS ∨ r5 = y + 1 ∨ y = p32 ∨ y = p3) w34 w36 := (Ch.refl (fun y => y = qS ∨ y = mbS ∨ r5 = y + 1 ∨ y = p32 ∨ y = p3) w34).then c36 (by intro q h1 h2; rcases h2 with h2 | h2 <;> first | exact h2 | exact .inr (.inr (.inr (.inl h2))) | exact .inr (.inr (.inr (.inr h2))) | (rcases h2 with h2 | h2 | h2 <;> first | exact .inl h2 | exact .inr (.inl h2) | exact .inr (.inr (.inl h2)) | exact .inr (.inr (.inl (RO.back (by assumption) (by omega) h2)))))
                  have CR_38 := CR_36.and (c37.trans c38)
                  have CR_39 : Ch (fun y => y = qS ∨ y = mbS ∨ r5 = y + 1 ∨ y = p32 ∨ y = p3) w34 w39 := CR_38.then c39 (by intro q h1 h2; rcases h2 with h2 | h2 <;> first | exact h2 | exact .inr (.inr (.inr (.inl h2))) | exact .inr (.inr (.inr (.inr h2))) | (rcases h2 with h2 | h2 | h2 <;> first | exact .inl h2 | exact .inr (.inl h2) | exact .inr (.inr (.inl h2)) | exact .inr (.inr (.inl (RO.back (by assumption) (by omega) h2)))))
                  have CR_40 := CR_39.and c40
                  have CR_41 : Ch (fun y => y = qS ∨ y = mbS ∨ r5 = y + 1 ∨ y = p32 ∨ y = p3) w34 w41 := CR_40.then c41 (by intro q h1 h2; rcases h2 with h2 | h2 <;> first | exact h2 | exact .inr (.inr (.inr (.inl h2))) | exact .inr (.inr (.inr (.inr h2))) | (rcases h2 with h2 | h2 | h2 <;> first | exact .inl h2 | exact .inr (.inl h2) | exact .inr (.inr (.inl h2)) | exact .inr (.inr (.inl (RO.back (by assumption) (by omega) h2)))))
                  have CR_42 : Ch (fun y => y = qS ∨ y = mbS ∨ r5 = y + 1 ∨ y = p32 ∨ y = p3) w34 w42 := CR_41.then c42 (by intro q h1 h2; rcases h2 with h2 | h2 <;> first | exact h2 | exact .inr (.inr (.inr (.inl h2))) | exact .inr (.inr (.inr (.inr h2))) | (rcases h2 with h2 | h2 | h2 <;> first | exact .inl h2 | exact .inr (.inl h2) | exact .inr (.inr (.inl h2)) | exact .inr (.inr (.inl (RO.back (by assumption) (by omega) h2)))))
                  refine VQ.roundC CR_42 (fun z hz => by rcases hz with hz | hz | hz | hz | hz <;> first | (right; exact soRC z hz) | (right; subst hz; exact ⟨_, _, _, b20R⟩) | (left; omega)) (KpR.of CR_42 (by intro z h1 h2; rcases h2 with h2 | h2 | h2 | h2 | h2 <;> rcases h1 with h1 | h1 <;> first | exact Ap.ne (by assumption) z h2 h1 | (subst h2; exact absurd h1 (by assumption)) | omega)) ?_
                  have hnx := nx_eq hpre hy hxy
                  have so_42 := so41.to c42 (by first | exact fun _ _ _ _ => id | (intro q h1 h2 hx h3; rcases h2 with h2 | h2 | h2 <;> first | (subst h3; exact absurd h2 (by assumption)) | omega))
                  have dfs_36 := dfs_34.to c36 (by first | exact fun _ _ _ _ => id | (intro q h1 h2 h3 h4; first | exact absurd h2 (by rw [hdsE]; simp) | (have := hds q h2; omega)))
                  have dfs_38 := dfs_36.keep (c37.trans c38)
                  have dfs_39 := dfs_38.to c39 (by first | exact fun _ _ _ _ => id | (intro q h1 h2 h3 h4; first | exact absurd h2 (by rw [hdsE]; simp) | (have := hds q h2; omega)))
                  have dfs_40 := dfs_39.keep c40
                  have dfs_41 := dfs_40.to c41 (by first | exact fun _ _ _ _ => id | (intro q h1 h2 h3 h4; first | exact absurd h2 (by rw [hdsE]; simp) | (have := hds q h2; omega)))
                  have dfs_42 := dfs_41.to c42 (by first | exact fun _ _ _ _ => id | (intro q h1 h2 h3 h4; first | exact absurd h2 (by rw [hdsE]; simp) | (have := hds q h2; omega)))
                  have nl_41 := nl_40.to c41 (by first | exact fun _ _ _ _ => id | (intro q h1 h2 h3 h4; (try have hSq := hSS q h2); rcases h4 with h4 | h4 | h4 <;> first | exact Ap.ne (by assumption) q h4 h2 | (subst h4; exact absurd h2 (by assumption)) | exact absurd h4 (Fr0.ne (N := w.heap.size) (by assumption) q (by omega)) | omega) | (intro q h1 h2 h3 h4; omega))
                  have nl_42 := nl_41.to c42 (by first | exact fun _ _ _ _ => id | (intro q h1 h2 h3 h4; (try have hSq := hSS q h2); rcases h4 with h4 | h4 | h4 <;> first | exact Ap.ne (by assumption) q h4 h2 | (subst h4; exact absurd h2 (by assumption)) | exact absurd h4 (Fr0.ne (N := w.heap.size) (by assumption) q (by omega)) | omega) | (intro q h1 h2 h3 h4; omega))
                  have b12_41 := b12_40.to c41 (by first | exact id | (intro h; rcases h with h | h | h <;> first | exact absurd h (by assumption) | omega) | omega)
                  have b12_42 := b12_41.to c42 (by first | exact id | (intro h; rcases h with h | h | h <;> first | exact absurd h (by assumption) | omega) | omega)
                  have b4_41 := b4_40.to c41 (by first | exact id | (intro h; rcases h with h | h | h <;> first | exact absurd h (by assumption) | omega) | omega)
                  have b4_42 := b4_41.to c42 (by first | exact id | (intro h; rcases h with h | h | h <;> first | exact absurd h (by assumption) | omega) | omega)
                  have b6_41 := b6_40.to c41 (by first | exact id | (intro h; rcases h with h | h | h <;> first | exact absurd h (by assumption) | omega) | omega)
                  have b6_42 := b6_41.to c42 (by first | exact id | (intro h; rcases h with h | h | h <;> first | exact absurd h (by assumption) | omega) | omega)
                  have b7_41 := b7_40.to c41 (by first | exact id | (intro h; rcases h with h | h | h <;> first | exact absurd h (by assumption) | omega) | omega)
                  have b7_42 := b7_41.to c42 (by first | exact id | (intro h; rcases h with h | h | h <;> first | exact absurd h (by assumption) | omega) | omega)
                  have sc_41 := sc_40.to c41 (by first | exact fun _ _ _ _ => id | (intro q h1 h2 h3 h4; (try have hSq := hSS q h2); rcases h4 with h4 | h4 | h4 <;> first | exact Ap.ne (by assumption) q h4 h2 | (subst h4; exact absurd h2 (by assumption)) | exact absurd h4 (Fr0.ne (N := w.heap.size) (by assumption) q (by omega)) | omega) | (intro q h1 h2 h3 h4; omega))
                  have sc_42 := sc_41.to c42 (by first | exact fun _ _ _ _ => id | (intro q h1 h2 h3 h4; (try have hSq := hSS q h2); rcases h4 with h4 | h4 | h4 <;> first | exact Ap.ne (by assumption) q h4 h2 | (subst h4; exact absurd h2 (by assumption)) | exact absurd h4 (Fr0.ne (N := w.heap.size) (by assumption) q (by omega)) | omega) | (intro q h1 h2 h3 h4; omega))
                  have lt_41 := lt_40.to c41 (by first | exact fun _ _ _ _ => id | (intro q h1 h2 h3 h4; (try have hSq := hSS q h2); rcases h4 with h4 | h4 | h4 <;> first | exact Ap.ne (by assumption) q h4 h2 | (subst h4; exact absurd h2 (by assumption)) | exact absurd h4 (Fr0.ne (N := w.heap.size) (by assumption) q (by omega)) | omega) | (intro q h1 h2 h3 h4; omega))
                  have lt_42 := lt_41.to c42 (by first | exact fun _ _ _ _ => id | (intro q h1 h2 h3 h4; (try have hSq := hSS q h2); rcases h4 with h4 | h4 | h4 <;> first | exact Ap.ne (by assumption) q h4 h2 | (subst h4; exact absurd h2 (by assumption)) | exact absurd h4 (Fr0.ne (N := w.heap.size) (by assumption) q (by omega)) | omega) | (intro q h1 h2 h3 h4; omega))
                  have er_41 := er_40.to c41 (by first | exact fun _ _ _ _ => id | (intro q h1 h2 h3 h4; (try have hSq := hSS q h2); rcases h4 with h4 | h4 | h4 <;> first | exact Ap.ne (by assumption) q h4 h2 | (subst h4; exact absurd h2 (by assumption)) | exact absurd h4 (Fr0.ne (N := w.heap.size) (by assumption) q (by omega)) | omega) | (intro q h1 h2 h3 h4; omega))
                  have er_42 := er_41.to c42 (by first | exact fun _ _ _ _ => id | (intro q h1 h2 h3 h4; (try have hSq := hSS q h2); rcases h4 with h4 | h4 | h4 <;> first | exact Ap.ne (by assumption) q h4 h2 | (subst h4; exact absurd h2 (by assumption)) | exact absurd h4 (Fr0.ne (N := w.heap.size) (by assumption) q (by omega)) | omega) | (intro q h1 h2 h3 h4; omega))
                  have st_38 := st_37.keep c38
                  have st_39 := st_38.to c39 (by first | exact fun _ _ _ _ => id | (intro q h1 h2 h3 h4; (try have hSq := hSS q h2); rcases h4 with h4 | h4 | h4 <;> first | exact Ap.ne (by assumption) q h4 h2 | (subst h4; exact absurd h2 (by assumption)) | exact absurd h4 (Fr0.ne (N := w.heap.size) (by assumption) q (by omega)) | omega) | (intro q h1 h2 h3 h4; omega))
                  have st_40 := st_39.keep c40
                  have st_41 := st_40.to c41 (by first | exact fun _ _ _ _ => id | (intro q h1 h2 h3 h4; (try have hSq := hSS q h2); rcases h4 with h4 | h4 | h4 <;> first | exact Ap.ne (by assumption) q h4 h2 | (subst h4; exact absurd h2 (by assumption)) | exact absurd h4 (Fr0.ne (N := w.heap.size) (by assumption) q (by omega)) | omega) | (intro q h1 h2 h3 h4; omega))
                  have st_42 := st_41.to c42 (by first | exact fun _ _ _ _ => id | (intro q h1 h2 h3 h4; (try have hSq := hSS q h2); rcases h4 with h4 | h4 | h4 <;> first | exact Ap.ne (by assumption) q h4 h2 | (subst h4; exact absurd h2 (by assumption)) | exact absurd h4 (Fr0.ne (N := w.heap.size) (by assumption) q (by omega)) | omega) | (intro q h1 h2 h3 h4; omega))
                  have tab_38 := tab_37.keep c38
                  have tab_39 := tab_38.to c39 (by first | exact fun _ _ _ _ => id | (intro q h1 h2 h3 h4; (try have hSq := hSS q h2); rcases h4 with h4 | h4 | h4 <;> first | exact Ap.ne (by assumption) q h4 h2 | (subst h4; exact absurd h2 (by assumption)) | exact absurd h4 (Fr0.ne (N := w.heap.size) (by assumption) q (by omega)) | omega) | (intro q h1 h2 h3 h4; omega))
                  have tab_40 := tab_39.keep c40
                  have tab_41 := tab_40.to c41 (by first | exact fun _ _ _ _ => id | (intro q h1 h2 h3 h4; (try have hSq := hSS q h2); rcases h4 with h4 | h4 | h4 <;> first | exact Ap.ne (by assumption) q h4 h2 | (subst h4; exact absurd h2 (by assumption)) | exact absurd h4 (Fr0.ne (N := w.heap.size) (by assumption) q (by omega)) | omega) | (intro q h1 h2 h3 h4; omega))
                  have tab_42 := tab_41.to c42 (by first | exact fun _ _ _ _ => id | (intro q h1 h2 h3 h4; (try have hSq := hSS q h2); rcases h4 with h4 | h4 | h4 <;> first | exact Ap.ne (by assumption) q h4 h2 | (subst h4; exact absurd h2 (by assumption)) | exact absurd h4 (Fr0.ne (N := w.heap.size) (by assumption) q (by omega)) | omega) | (intro q h1 h2 h3 h4; omega))
                  have bn_41 := bn_40.to c41 (by first | exact id | (intro h; rcases h with h | h | h <;> first | exact absurd h (by assumption) | omega) | omega)
                  have bn_42 := bn_41.to c42 (by first | exact id | (intro h; rcases h with h | h | h <;> first | exact absurd h (by assumption) | omega) | omega)
                  have cn_41 := cn_40.to c41 (by first | exact fun _ _ _ _ => id | (intro q h1 h2 h3 h4; (try have hSq := hSS q h2); rcases h4 with h4 | h4 | h4 <;> first | exact Ap.ne (by assumption) q h4 h2 | (subst h4; exact absurd h2 (by assumption)) | exact absurd h4 (Fr0.ne (N := w.heap.size) (by assumption) q (by omega)) | omega) | (intro q h1 h2 h3 h4; omega))
                  have cn_42 := cn_41.to c42 (by first | exact fun _ _ _ _ => id | (intro q h1 h2 h3 h4; (try have hSq := hSS q h2); rcases h4 with h4 | h4 | h4 <;> first | exact Ap.ne (by assumption) q h4 h2 | (subst h4; exact absurd h2 (by assumption)) | exact absurd h4 (Fr0.ne (N := w.heap.size) (by assumption) q (by omega)) | omega) | (intro q h1 h2 h3 h4; omega))
                  have CH_36 : Ch (No) w w36 := CH_34.then c36 (by intro q h1 h2; rcases h2 with h2 | h2 <;> first | exact h2 | (rcases h2 with h2 | h2 | h2 <;> first | exact absurd h2 (Fr0.ne (N := w.heap.size) (by assumption) q h1) | (exfalso; omega)) | (exfalso; omega))
                  have CH_38 := CH_36.and (c37.trans c38)
                  have CH_39 : Ch (No) w w39 := CH_38.then c39 (by intro q h1 h2; rcases h2 with h2 | h2 <;> first | exact h2 | (rcases h2 with h2 | h2 | h2 <;> first | exact absurd h2 (Fr0.ne (N := w.heap.size) (by assumption) q h1) | (exfalso; omega)) | (exfalso; omega))
                  have CH_40 := CH_39.and c40
                  have CH_41 : Ch (No) w w41 := CH_40.then c41 (by intro q h1 h2; rcases h2 with h2 | h2 <;> first | exact h2 | (rcases h2 with h2 | h2 | h2 <;> first | exact absurd h2 (Fr0.ne (N := w.heap.size) (by assumption) q h1) | (exfalso; omega)) | (exfalso; omega))
                  have CH_42 : Ch (No) w w42 := CH_41.then c42 (by intro q h1 h2; rcases h2 with h2 | h2 <;> first | exact h2 | (rcases h2 with h2 | h2 | h2 <;> first | exact absurd h2 (Fr0.ne (N := w.heap.size) (by assumption) q h1) | (exfalso; omega)) | (exfalso; omega))
                  exact ⟨r41, L41, m41, hnx, ((hr5R.trans ro39 (by omega)).trans ro41 (by omega)).or, so_42, b19_42, by rw [hl9]; exact b20_42, dfs_42, nl_42, b12_42, b4_42, b5_42, b6_42, b7_42, sc_42, lt_42, er_42, st_42, tab_42, bn_42, cn_42, CH_42, by omega⟩
              · skip
                try simp only [Bool.and_eq_true, Bool.or_eq_true, Bool.not_eq_true', Bool.not_eq_false', Bool.and_eq_false_iff, Bool.or_eq_false_iff, decide_eq_true_eq, decide_eq_false_iff_not] at hc7
                refine VC.skip ?_
                refine VQ.then_code ?_
                refine VC.seq ?_
                refine VC.regionR rfl ?_
                refine VO.mv (Rn.load Tryz.isAgg3 rfl (b20_34.cell rfl)) rfl rfl rfl ?_
                refine VO.mv (Rn.add rfl rfl (by rw [IntKind.wrap_i64]; omega)) rfl rfl rfl ?_
                refine VO.wk0 (Wk.put Tryz.sizeOf3 rfl rfl rfl rfl b20_34 rfl) rfl rfl ?_
                intro _ w43 Z43
                have c43 := Z43.ch; have z43 := Z43.size
                have b20_43 := Bk.put Z43
                refine VO.nil ?_
                refine VQ.noPO ?_
                refine VQ.then_code ?_
                refine VC.seq ?_
                refine VC.regionR rfl ?_
                have b19_43 := b19_34.to c43 (by first | exact id | (intro h; rcases h with h | h | h <;> first | exact absurd h (by assumption) | omega) | omega)
                refine VO.mv (Rn.load Tryz.isAgg3 rfl (b19_43.cell rfl)) rfl rfl rfl ?_
                refine VO.mv (Rn.eql rfl rfl) rfl rfl rfl ?_
                refine VO.mv (Rn.move rfl) rfl rfl rfl ?_
                have b5_43 := b5_34.to c43 (by first | exact id | (intro h; rcases h with h | h | h <;> first | exact absurd h (by assumption) | omega) | omega)
                refine VO.andJoin (b := _) 4 183 187 rfl (fun hc10 Jhc10 => by
                    try simp only [Bool.and_eq_true, Bool.or_eq_true, Bool.not_eq_true', Bool.not_eq_false', Bool.and_eq_false_iff, Bool.or_eq_false_iff, decide_eq_true_eq, decide_eq_false_iff_not] at hc10
                    refine VO.mv (Rn.load Tryz.isAgg3 rfl (b20_43.cell rfl)) rfl rfl rfl ?_
                    refine VO.mv (Rn.load Tryz.isAgg3 rfl (b5_43.cell rfl)) rfl rfl rfl ?_
                    refine VO.mv (Rn.gtr rfl rfl) rfl rfl rfl ?_
                    refine VO.mv (Rn.pick_true rfl rfl) rfl rfl rfl ?_
                    exact (VO.fg rfl (VO.fg rfl (VO.fg rfl Jhc10)))) (fun hc10 Jhc10 => by
                    refine VO.skip rfl rfl rfl ?_
                    refine VO.skip rfl rfl rfl ?_
                    refine VO.skip rfl rfl rfl ?_
                    refine VO.mv (Rn.pick_false rfl rfl) rfl rfl rfl ?_
                    exact (VO.fg rfl (VO.fg rfl (VO.fg rfl Jhc10)))) ?_
                refine VO.nil ?_
                refine VQ.noPO ?_
                refine VQ.then_code ?_
                refine VC.cond rfl (fun hc11 => ?_) (fun hc11 => ?_)
                · skip
                  try simp only [Bool.and_eq_true, Bool.or_eq_true, Bool.not_eq_true', Bool.not_eq_false', Bool.and_eq_false_iff, Bool.or_eq_false_iff, decide_eq_true_eq, decide_eq_false_iff_not] at hc11
                  refine VC.exit ?_
                  refine VQ.block_other rfl ?_
                  have hl9 : (pre ++ [x]).length = pre.length + 1 := by simp
                  have CR_43 : Ch (fun y => y = qS ∨ y = mbS ∨ r5 = y + 1 ∨ y = p32 ∨ y = p3) w34 w43 := (Ch.refl (fun y => y = qS ∨ y = mbS ∨ r5 = y + 1 ∨ y = p32 ∨ y = p3) w34).then c43 (by intro q h1 h2; rcases h2 with h2 | h2 <;> first | exact h2 | exact .inr (.inr (.inr (.inl h2))) | exact .inr (.inr (.inr (.inr h2))) | (rcases h2 with h2 | h2 | h2 <;> first | exact .inl h2 | exact .inr (.inl h2) | exact .inr (.inr (.inl h2)) | exact .inr (.inr (.inl (RO.back (by assumption) (by omega) h2)))))
                  refine VQ.roundE CR_43 (fun z hz => by rcases hz with hz | hz | hz | hz | hz <;> first | (right; exact soRC z hz) | (right; subst hz; exact ⟨_, _, _, b20R⟩) | (left; omega)) (.inr ⟨rfl, by omega, by omega, ?_⟩)
                  have hnx := nx_eq hpre hy hxy
                  have so_43 := so_34.to c43 (by first | exact fun _ _ _ _ => id | (intro q h1 h2 hx h3; rcases h2 with h2 | h2 | h2 <;> first | (subst h3; exact absurd h2 (by assumption)) | omega))
                  have dfs_43 := dfs_34.to c43 (by first | exact fun _ _ _ _ => id | (intro q h1 h2 h3 h4; first | exact absurd h2 (by rw [hdsE]; simp) | (have := hds q h2; omega)))
                  have nl_43 := nl_34.to c43 (by first | exact fun _ _ _ _ => id | (intro q h1 h2 h3 h4; (try have hSq := hSS q h2); rcases h4 with h4 | h4 | h4 <;> first | exact Ap.ne (by assumption) q h4 h2 | (subst h4; exact absurd h2 (by assumption)) | exact absurd h4 (Fr0.ne (N := w.heap.size) (by assumption) q (by omega)) | omega) | (intro q h1 h2 h3 h4; omega))
                  have b12_43 := b12_34.to c43 (by first | exact id | (intro h; rcases h with h | h | h <;> first | exact absurd h (by assumption) | omega) | omega)
                  have b4_43 := b4_34.to c43 (by first | exact id | (intro h; rcases h with h | h | h <;> first | exact absurd h (by assumption) | omega) | omega)
                  have b6_43 := b6_34.to c43 (by first | exact id | (intro h; rcases h with h | h | h <;> first | exact absurd h (by assumption) | omega) | omega)
                  have b7_43 := b7_34.to c43 (by first | exact id | (intro h; rcases h with h | h | h <;> first | exact absurd h (by assumption) | omega) | omega)
                  have sc_43 := sc_34.to c43 (by first | exact fun _ _ _ _ => id | (intro q h1 h2 h3 h4; (try have hSq := hSS q h2); rcases h4 with h4 | h4 | h4 <;> first | exact Ap.ne (by assumption) q h4 h2 | (subst h4; exact absurd h2 (by assumption)) | exact absurd h4 (Fr0.ne (N := w.heap.size) (by assumption) q (by omega)) | omega) | (intro q h1 h2 h3 h4; omega))
                  have lt_43 := lt_34.to c43 (by first | exact fun _ _ _ _ => id | (intro q h1 h2 h3 h4; (try have hSq := hSS q h2); rcases h4 with h4 | h4 | h4 <;> first | exact Ap.ne (by assumption) q h4 h2 | (subst h4; exact absurd h2 (by assumption)) | exact absurd h4 (Fr0.ne (N := w.heap.size) (by assumption) q (by omega)) | omega) | (intro q h1 h2 h3 h4; omega))
                  have er_43 := er_34.to c43 (by first | exact fun _ _ _ _ => id | (intro q h1 h2 h3 h4; (try have hSq := hSS q h2); rcases h4 with h4 | h4 | h4 <;> first | exact Ap.ne (by assumption) q h4 h2 | (subst h4; exact absurd h2 (by assumption)) | exact absurd h4 (Fr0.ne (N := w.heap.size) (by assumption) q (by omega)) | omega) | (intro q h1 h2 h3 h4; omega))
                  have st_43 := st_34.to c43 (by first | exact fun _ _ _ _ => id | (intro q h1 h2 h3 h4; (try have hSq := hSS q h2); rcases h4 with h4 | h4 | h4 <;> first | exact Ap.ne (by assumption) q h4 h2 | (subst h4; exact absurd h2 (by assumption)) | exact absurd h4 (Fr0.ne (N := w.heap.size) (by assumption) q (by omega)) | omega) | (intro q h1 h2 h3 h4; omega))
                  have tab_43 := tab_34.to c43 (by first | exact fun _ _ _ _ => id | (intro q h1 h2 h3 h4; (try have hSq := hSS q h2); rcases h4 with h4 | h4 | h4 <;> first | exact Ap.ne (by assumption) q h4 h2 | (subst h4; exact absurd h2 (by assumption)) | exact absurd h4 (Fr0.ne (N := w.heap.size) (by assumption) q (by omega)) | omega) | (intro q h1 h2 h3 h4; omega))
                  have bn_43 := bn_34.to c43 (by first | exact id | (intro h; rcases h with h | h | h <;> first | exact absurd h (by assumption) | omega) | omega)
                  have cn_43 := cn_34.to c43 (by first | exact fun _ _ _ _ => id | (intro q h1 h2 h3 h4; (try have hSq := hSS q h2); rcases h4 with h4 | h4 | h4 <;> first | exact Ap.ne (by assumption) q h4 h2 | (subst h4; exact absurd h2 (by assumption)) | exact absurd h4 (Fr0.ne (N := w.heap.size) (by assumption) q (by omega)) | omega) | (intro q h1 h2 h3 h4; omega))
                  have CH_43 : Ch (No) w w43 := CH_34.then c43 (by intro q h1 h2; rcases h2 with h2 | h2 <;> first | exact h2 | (rcases h2 with h2 | h2 | h2 <;> first | exact absurd h2 (Fr0.ne (N := w.heap.size) (by assumption) q h1) | (exfalso; omega)) | (exfalso; omega))
                  exact ⟨r5, L5, m5, hnx, hr5R.or, so_43, b19_43, by rw [hl9]; exact b20_43, dfs_43, nl_43, b12_43, b4_43, b5_43, b6_43, b7_43, sc_43, lt_43, er_43, st_43, tab_43, bn_43, cn_43, CH_43, by omega⟩
                · skip
                  try simp only [Bool.and_eq_true, Bool.or_eq_true, Bool.not_eq_true', Bool.not_eq_false', Bool.and_eq_false_iff, Bool.or_eq_false_iff, decide_eq_true_eq, decide_eq_false_iff_not] at hc11
                  refine VC.skip ?_
                  refine VQ.block_normal ?_
                  have hl9 : (pre ++ [x]).length = pre.length + 1 := by simp
                  have CR_43 : Ch (fun y => y = qS ∨ y = mbS ∨ r5 = y + 1 ∨ y = p32 ∨ y = p3) w34 w43 := (Ch.refl (fun y => y = qS ∨ y = mbS ∨ r5 = y + 1 ∨ y = p32 ∨ y = p3) w34).then c43 (by intro q h1 h2; rcases h2 with h2 | h2 <;> first | exact h2 | exact .inr (.inr (.inr (.inl h2))) | exact .inr (.inr (.inr (.inr h2))) | (rcases h2 with h2 | h2 | h2 <;> first | exact .inl h2 | exact .inr (.inl h2) | exact .inr (.inr (.inl h2)) | exact .inr (.inr (.inl (RO.back (by assumption) (by omega) h2)))))
                  refine VQ.roundC CR_43 (fun z hz => by rcases hz with hz | hz | hz | hz | hz <;> first | (right; exact soRC z hz) | (right; subst hz; exact ⟨_, _, _, b20R⟩) | (left; omega)) (KpR.of CR_43 (by intro z h1 h2; rcases h2 with h2 | h2 | h2 | h2 | h2 <;> rcases h1 with h1 | h1 <;> first | exact Ap.ne (by assumption) z h2 h1 | (subst h2; exact absurd h1 (by assumption)) | omega)) ?_
                  have hnx := nx_eq hpre hy hxy
                  have so_43 := so_34.to c43 (by first | exact fun _ _ _ _ => id | (intro q h1 h2 hx h3; rcases h2 with h2 | h2 | h2 <;> first | (subst h3; exact absurd h2 (by assumption)) | omega))
                  have dfs_43 := dfs_34.to c43 (by first | exact fun _ _ _ _ => id | (intro q h1 h2 h3 h4; first | exact absurd h2 (by rw [hdsE]; simp) | (have := hds q h2; omega)))
                  have nl_43 := nl_34.to c43 (by first | exact fun _ _ _ _ => id | (intro q h1 h2 h3 h4; (try have hSq := hSS q h2); rcases h4 with h4 | h4 | h4 <;> first | exact Ap.ne (by assumption) q h4 h2 | (subst h4; exact absurd h2 (by assumption)) | exact absurd h4 (Fr0.ne (N := w.heap.size) (by assumption) q (by omega)) | omega) | (intro q h1 h2 h3 h4; omega))
                  have b12_43 := b12_34.to c43 (by first | exact id | (intro h; rcases h with h | h | h <;> first | exact absurd h (by assumption) | omega) | omega)
                  have b4_43 := b4_34.to c43 (by first | exact id | (intro h; rcases h with h | h | h <;> first | exact absurd h (by assumption) | omega) | omega)
                  have b6_43 := b6_34.to c43 (by first | exact id | (intro h; rcases h with h | h | h <;> first | exact absurd h (by assumption) | omega) | omega)
                  have b7_43 := b7_34.to c43 (by first | exact id | (intro h; rcases h with h | h | h <;> first | exact absurd h (by assumption) | omega) | omega)
                  have sc_43 := sc_34.to c43 (by first | exact fun _ _ _ _ => id | (intro q h1 h2 h3 h4; (try have hSq := hSS q h2); rcases h4 with h4 | h4 | h4 <;> first | exact Ap.ne (by assumption) q h4 h2 | (subst h4; exact absurd h2 (by assumption)) | exact absurd h4 (Fr0.ne (N := w.heap.size) (by assumption) q (by omega)) | omega) | (intro q h1 h2 h3 h4; omega))
                  have lt_43 := lt_34.to c43 (by first | exact fun _ _ _ _ => id | (intro q h1 h2 h3 h4; (try have hSq := hSS q h2); rcases h4 with h4 | h4 | h4 <;> first | exact Ap.ne (by assumption) q h4 h2 | (subst h4; exact absurd h2 (by assumption)) | exact absurd h4 (Fr0.ne (N := w.heap.size) (by assumption) q (by omega)) | omega) | (intro q h1 h2 h3 h4; omega))
                  have er_43 := er_34.to c43 (by first | exact fun _ _ _ _ => id | (intro q h1 h2 h3 h4; (try have hSq := hSS q h2); rcases h4 with h4 | h4 | h4 <;> first | exact Ap.ne (by assumption) q h4 h2 | (subst h4; exact absurd h2 (by assumption)) | exact absurd h4 (Fr0.ne (N := w.heap.size) (by assumption) q (by omega)) | omega) | (intro q h1 h2 h3 h4; omega))
                  have st_43 := st_34.to c43 (by first | exact fun _ _ _ _ => id | (intro q h1 h2 h3 h4; (try have hSq := hSS q h2); rcases h4 with h4 | h4 | h4 <;> first | exact Ap.ne (by assumption) q h4 h2 | (subst h4; exact absurd h2 (by assumption)) | exact absurd h4 (Fr0.ne (N := w.heap.size) (by assumption) q (by omega)) | omega) | (intro q h1 h2 h3 h4; omega))
                  have tab_43 := tab_34.to c43 (by first | exact fun _ _ _ _ => id | (intro q h1 h2 h3 h4; (try have hSq := hSS q h2); rcases h4 with h4 | h4 | h4 <;> first | exact Ap.ne (by assumption) q h4 h2 | (subst h4; exact absurd h2 (by assumption)) | exact absurd h4 (Fr0.ne (N := w.heap.size) (by assumption) q (by omega)) | omega) | (intro q h1 h2 h3 h4; omega))
                  have bn_43 := bn_34.to c43 (by first | exact id | (intro h; rcases h with h | h | h <;> first | exact absurd h (by assumption) | omega) | omega)
                  have cn_43 := cn_34.to c43 (by first | exact fun _ _ _ _ => id | (intro q h1 h2 h3 h4; (try have hSq := hSS q h2); rcases h4 with h4 | h4 | h4 <;> first | exact Ap.ne (by assumption) q h4 h2 | (subst h4; exact absurd h2 (by assumption)) | exact absurd h4 (Fr0.ne (N := w.heap.size) (by assumption) q (by omega)) | omega) | (intro q h1 h2 h3 h4; omega))
                  have CH_43 : Ch (No) w w43 := CH_34.then c43 (by intro q h1 h2; rcases h2 with h2 | h2 <;> first | exact h2 | (rcases h2 with h2 | h2 | h2 <;> first | exact absurd h2 (Fr0.ne (N := w.heap.size) (by assumption) q h1) | (exfalso; omega)) | (exfalso; omega))
                  exact ⟨r5, L5, m5, hnx, hr5R.or, so_43, b19_43, by rw [hl9]; exact b20_43, dfs_43, nl_43, b12_43, b4_43, b5_43, b6_43, b7_43, sc_43, lt_43, er_43, st_43, tab_43, bn_43, cn_43, CH_43, by omega⟩
          · skip
            rintro D xs w44 hD hS ⟨r5, L5, m5, hpre, hr5, so_44, b19_44, b20_44, dfs_44, nl_44, b12_44, b4_44, b5_44, b6_44, b7_44, sc_44, lt_44, er_44, st_44, tab_44, bn_44, cn_44, CH_44, hszR⟩ hK
            have df_44 : Df w44 D := ⟨hK⟩
            subst hS
            have hDlt := df_44.lt
            have lsoZ := so_44.lt
            refine VQ.block_normal ?_
            refine VQ.then_code ?_
            refine VC.seq ?_
            refine VC.region ?_
            refine VO.mv (Rn.load Tryz.isAgg3 rfl (b20_44.cell rfl)) rfl rfl rfl ?_
            refine VO.mv (Rn.load Tryz.isAgg30 rfl (b12_44.cell rfl)) rfl rfl rfl ?_
            refine VO.mv (Rn.len Tryz.underlying30 rfl) rfl rfl rfl ?_
            refine VO.mv (Rn.lss rfl rfl) rfl rfl rfl ?_
            refine VO.mv (Rn.move rfl) rfl rfl rfl ?_
            refine VO.andJoin (b := _) 8 192 200 rfl (fun hc12 Jhc12 => by
                try simp only [Bool.and_eq_true, Bool.or_eq_true, Bool.not_eq_true', Bool.not_eq_false', Bool.and_eq_false_iff, Bool.or_eq_false_iff, decide_eq_true_eq, decide_eq_false_iff_not] at hc12
                refine VO.mv (Rn.load Tryz.isAgg3 rfl (b19_44.cell rfl)) rfl rfl rfl ?_
                refine VO.mv (Rn.eql rfl rfl) rfl rfl rfl ?_
                refine VO.mv (Rn.move rfl) rfl rfl rfl ?_
                refine VO.orJoin (b := _) 4 195 199 rfl (fun hc13 Jhc13 => by
                    refine VO.skip rfl rfl rfl ?_
                    refine VO.skip rfl rfl rfl ?_
                    refine VO.skip rfl rfl rfl ?_
                    refine VO.mv (Rn.pick_true rfl rfl) rfl rfl rfl ?_
                    exact (VO.fg rfl (VO.fg rfl (VO.fg rfl Jhc13)))) (fun hc13 Jhc13 => by
                    try simp only [Bool.and_eq_true, Bool.or_eq_true, Bool.not_eq_true', Bool.not_eq_false', Bool.and_eq_false_iff, Bool.or_eq_false_iff, decide_eq_true_eq, decide_eq_false_iff_not] at hc13
                    refine VO.mv (Rn.load Tryz.isAgg3 rfl (b20_44.cell rfl)) rfl rfl rfl ?_
                    refine VO.mv (Rn.load Tryz.isAgg3 rfl (b5_44.cell rfl)) rfl rfl rfl ?_
                    refine VO.mv (Rn.leq rfl rfl) rfl rfl rfl ?_
                    refine VO.mv (Rn.pick_false rfl rfl) rfl rfl rfl ?_
                    exact (VO.fg rfl (VO.fg rfl (VO.fg rfl Jhc13)))) ?_
                refine VO.mv (Rn.pick_true rfl rfl) rfl rfl rfl ?_
                exact (VO.fg rfl (VO.fg rfl (VO.fg rfl (VO.fg rfl Jhc12))))) (fun hc12 Jhc12 => by
                refine VO.skip rfl rfl rfl ?_
                refine VO.skip rfl rfl rfl ?_
                refine VO.skip rfl rfl rfl ?_
                refine VO.skipU rfl rfl rfl rfl rfl ?_
                refine VO.skipU rfl rfl rfl rfl rfl ?_
                refine VO.skipU rfl rfl rfl rfl rfl ?_
                refine VO.skip rfl rfl rfl ?_
                refine VO.mv (Rn.pick_false rfl rfl) rfl rfl rfl ?_
                exact (VO.fg rfl (VO.fg rfl (VO.fg rfl (VO.fg rfl (VO.fg rfl (VO.fg rfl (VO.fg rfl Jhc12)))))))) ?_
            refine VO.nil ?_
            refine VQ.then_code ?_
            refine VC.cond rfl (fun hc14 => ?_) (fun hc14 => ?_)
            · skip
              try simp only [Bool.and_eq_true, Bool.or_eq_true, Bool.not_eq_true', Bool.not_eq_false', Bool.and_eq_false_iff, Bool.or_eq_false_iff, decide_eq_true_eq, decide_eq_false_iff_not] at hc14
              omega
            · skip
              try simp only [Bool.and_eq_true, Bool.or_eq_true, Bool.not_eq_true', Bool.not_eq_false', Bool.and_eq_false_iff, Bool.or_eq_false_iff, decide_eq_true_eq, decide_eq_false_iff_not] at hc14
              refine VC.skip ?_
              refine VQ.block_normal ?_
              refine VQ.then_code ?_
              refine VC.seq ?_
              refine VC.seq ?_
              refine VC.region ?_
              refine VO.mv (Rn.load Tryz.isAgg3 rfl (b19_44.cell rfl)) rfl rfl rfl ?_
              refine VO.nil ?_
              refine VQ.then_code ?_
              refine VC.region ?_
              refine VO.wk (Wk.alloc Tryz.zeroValue3) rfl rfl rfl ?_
              rintro _ w45 ⟨p45, rfl, N45⟩
              have c45 := N45.ch
              have e45 := N45.p; have z45 := N45.size
              have b19 := Bk.new N45
              refine VO.wk0 (Wk.put Tryz.sizeOf3 rfl rfl rfl rfl b19 rfl) rfl rfl ?_
              intro _ w46 Z46
              have c46 := Z46.ch; have z46 := Z46.size
              have b19_46 := Bk.put Z46
              refine VO.nil ?_
              refine VQ.then_code ?_
              refine VC.region ?_
              refine VO.mv (Rn.load Tryz.isAgg3 rfl (b19_46.cell rfl)) rfl rfl rfl ?_
              refine VO.mv (Rn.add rfl rfl (by rw [IntKind.wrap_i64]; omega)) rfl rfl rfl ?_
              refine VO.wk0 (Wk.put Tryz.sizeOf3 rfl rfl rfl rfl b19_46 rfl) rfl rfl ?_
              intro _ w47 Z47
              have c47 := Z47.ch; have z47 := Z47.size
              have b19_47 := Bk.put Z47
              refine VO.nil ?_
              refine VQ.roundN (tn + 1, p45, D :: ds, r5, L5, m5) rfl (by first | omega | (dsimp only; omega)) ?_ ⟨rfl, rfl, rfl, rfl, rfl, rfl, rfl, trivial⟩
              have cc_44_47 : Ch No w44 w47 := (Ch.then (E := No) (Ch.then (E := No) c45 c46 (by intro q h1 h2; rcases h2 with h2 | h2 <;> first | exact h2 | (exfalso; omega))) c47 (by intro q h1 h2; rcases h2 with h2 | h2 <;> first | exact h2 | (exfalso; omega)))
              have df_47 := df_44.keep cc_44_47
              have so_47 := so_44.keep cc_44_47
              have dfs_47 := dfs_44.keep cc_44_47
              have nl_47 := nl_44.keep cc_44_47
              have b12_47 := b12_44.keep cc_44_47
              have b4_47 := b4_44.keep cc_44_47
              have b5_47 := b5_44.keep cc_44_47
              have b6_47 := b6_44.keep cc_44_47
              have b7_47 := b7_44.keep cc_44_47
              have sc_47 := sc_44.keep cc_44_47
              have lt_47 := lt_44.keep cc_44_47
              have er_47 := er_44.keep cc_44_47
              have st_47 := st_44.keep cc_44_47
              have tab_47 := tab_44.keep cc_44_47
              have bn_47 := bn_44.keep cc_44_47
              have cn_47 := cn_44.keep cc_44_47
              have CH_47 := CH_44.and cc_44_47
              exact ⟨(by omega), (fun q hq => by rcases List.mem_cons.1 hq with rfl | hq; (have := df_47.lt; omega); (have := hds q hq; omega)), (fun h => by omega), (by omega), (by omega), (by omega), (by omega), (by omega), so_47, b19_47, ((dfs_47).cons df_47.blk (by omega) (fun q hq => by have := hds q hq; omega)), nl_47, b12_47, b4_47, b5_47, b6_47, b7_47, sc_47, lt_47, er_47, st_47, tab_47, bn_47, cn_47, CH_47⟩
          · skip
            rintro D c pre w48 hD hS hix hK
            rcases hix with ⟨rfl, hne⟩ | ⟨rfl, htn0, hst, r5, L5, m5, hpre, hr5, so_48, b19_48, b20_48, dfs_48, nl_48, b12_48, b4_48, b5_48, b6_48, b7_48, sc_48, lt_48, er_48, st_48, tab_48, bn_48, cn_48, CH_48, hszR⟩
            · exact absurd hS hne
            have df_48 : Df w48 D := ⟨hK⟩
            have hDlt := df_48.lt
            have lsoZ := so_48.lt
            refine VC.exit ?_
            refine VQ.block_exit ?_
            refine VQ.then_code ?_
            refine VC.seq ?_
            refine VC.region ?_
            refine VO.mv (Rn.load Tryz.isAgg3 rfl (b20_48.cell rfl)) rfl rfl rfl ?_
            refine VO.mv (Rn.load Tryz.isAgg30 rfl (b12_48.cell rfl)) rfl rfl rfl ?_
            refine VO.mv (Rn.len Tryz.underlying30 rfl) rfl rfl rfl ?_
            refine VO.mv (Rn.lss rfl rfl) rfl rfl rfl ?_
            refine VO.mv (Rn.move rfl) rfl rfl rfl ?_
            refine VO.andJoin (b := _) 8 192 200 rfl (fun hc15 Jhc15 => by
                try simp only [Bool.and_eq_true, Bool.or_eq_true, Bool.not_eq_true', Bool.not_eq_false', Bool.and_eq_false_iff, Bool.or_eq_false_iff, decide_eq_true_eq, decide_eq_false_iff_not] at hc15
                refine VO.mv (Rn.load Tryz.isAgg3 rfl (b19_48.cell rfl)) rfl rfl rfl ?_
                refine VO.mv (Rn.eql rfl rfl) rfl rfl rfl ?_
                refine VO.mv (Rn.move rfl) rfl rfl rfl ?_
                refine VO.orJoin (b := _) 4 195 199 rfl (fun hc16 Jhc16 => by
                    refine VO.skip rfl rfl rfl ?_
                    refine VO.skip rfl rfl rfl ?_
                    refine VO.skip rfl rfl rfl ?_
                    refine VO.mv (Rn.pick_true rfl rfl) rfl rfl rfl ?_
                    exact (VO.fg rfl (VO.fg rfl (VO.fg rfl Jhc16)))) (fun hc16 Jhc16 => by
                    try simp only [Bool.and_eq_true, Bool.or_eq_true, Bool.not_eq_true', Bool.not_eq_false', Bool.and_eq_false_iff, Bool.or_eq_false_iff, decide_eq_true_eq, decide_eq_false_iff_not] at hc16
                    refine VO.mv (Rn.load Tryz.isAgg3 rfl (b20_48.cell rfl)) rfl rfl rfl ?_
                    refine VO.mv (Rn.load Tryz.isAgg3 rfl (b5_48.cell rfl)) rfl rfl rfl ?_
                    refine VO.mv (Rn.leq rfl rfl) rfl rfl rfl ?_
                    refine VO.mv (Rn.pick_false rfl rfl) rfl rfl rfl ?_
                    exact (VO.fg rfl (VO.fg rfl (VO.fg rfl Jhc16)))) ?_
                refine VO.mv (Rn.pick_true rfl rfl) rfl rfl rfl ?_
                exact (VO.fg rfl (VO.fg rfl (VO.fg rfl (VO.fg rfl Jhc15))))) (fun hc15 Jhc15 => by
                refine VO.skip rfl rfl rfl ?_
                refine VO.skip rfl rfl rfl ?_
                refine VO.skip rfl rfl rfl ?_
                refine VO.skipU rfl rfl rfl rfl rfl ?_
                refine VO.skipU rfl rfl rfl rfl rfl ?_
                refine VO.skipU rfl rfl rfl rfl rfl ?_
                refine VO.skip rfl rfl rfl ?_
                refine VO.mv (Rn.pick_false rfl rfl) rfl rfl rfl ?_
                exact (VO.fg rfl (VO.fg rfl (VO.fg rfl (VO.fg rfl (VO.fg rfl (VO.fg rfl (VO.fg rfl Jhc15)))))))) ?_
            refine VO.nil ?_
            refine VQ.then_code ?_
            refine VC.cond rfl (fun hc17 => ?_) (fun hc17 => ?_)
            · skip
              try simp only [Bool.and_eq_true, Bool.or_eq_true, Bool.not_eq_true', Bool.not_eq_false', Bool.and_eq_false_iff, Bool.or_eq_false_iff, decide_eq_true_eq, decide_eq_false_iff_not] at hc17
              omega
            · skip
              try simp only [Bool.and_eq_true, Bool.or_eq_true, Bool.not_eq_true', Bool.not_eq_false', Bool.and_eq_false_iff, Bool.or_eq_false_iff, decide_eq_true_eq, decide_eq_false_iff_not] at hc17
              refine VC.skip ?_
              refine VQ.block_normal ?_
              refine VQ.then_code ?_
              refine VC.seq ?_
              refine VC.seq ?_
              refine VC.region ?_
              refine VO.mv (Rn.load Tryz.isAgg3 rfl (b19_48.cell rfl)) rfl rfl rfl ?_
              refine VO.nil ?_
              refine VQ.then_code ?_
              refine VC.region ?_
              refine VO.wk (Wk.alloc Tryz.zeroValue3) rfl rfl rfl ?_
              rintro _ w49 ⟨p49, rfl, N49⟩
              have c49 := N49.ch
              have e49 := N49.p; have z49 := N49.size
              have b19 := Bk.new N49
              refine VO.wk0 (Wk.put Tryz.sizeOf3 rfl rfl rfl rfl b19 rfl) rfl rfl ?_
              intro _ w50 Z50
              have c50 := Z50.ch; have z50 := Z50.size
              have b19_50 := Bk.put Z50
              refine VO.nil ?_
              refine VQ.then_code ?_
              refine VC.region ?_
              refine VO.mv (Rn.load Tryz.isAgg3 rfl (b19_50.cell rfl)) rfl rfl rfl ?_
              refine VO.mv (Rn.add rfl rfl (by rw [IntKind.wrap_i64]; omega)) rfl rfl rfl ?_
              refine VO.wk0 (Wk.put Tryz.sizeOf3 rfl rfl rfl rfl b19_50 rfl) rfl rfl ?_
              intro _ w51 Z51
              have c51 := Z51.ch; have z51 := Z51.size
              have b19_51 := Bk.put Z51
              refine VO.nil ?_
              refine VQ.roundN (tn + 1, p49, D :: ds, r5, L5, m5) rfl (by first | omega | (dsimp only; omega)) ?_ ⟨rfl, rfl, rfl, rfl, rfl, rfl, rfl, trivial⟩
              have cc_48_51 : Ch No w48 w51 := (Ch.then (E := No) (Ch.then (E := No) c49 c50 (by intro q h1 h2; rcases h2 with h2 | h2 <;> first | exact h2 | (exfalso; omega))) c51 (by intro q h1 h2; rcases h2 with h2 | h2 <;> first | exact h2 | (exfalso; omega)))
              have df_51 := df_48.keep cc_48_51
              have so_51 := so_48.keep cc_48_51
              have dfs_51 := dfs_48.keep cc_48_51
              have nl_51 := nl_48.keep cc_48_51
              have b12_51 := b12_48.keep cc_48_51
              have b4_51 := b4_48.keep cc_48_51
              have b5_51 := b5_48.keep cc_48_51
              have b6_51 := b6_48.keep cc_48_51
              have b7_51 := b7_48.keep cc_48_51
              have sc_51 := sc_48.keep cc_48_51
              have lt_51 := lt_48.keep cc_48_51
              have er_51 := er_48.keep cc_48_51
              have st_51 := st_48.keep cc_48_51
              have tab_51 := tab_48.keep cc_48_51
              have bn_51 := bn_48.keep cc_48_51
              have cn_51 := cn_48.keep cc_48_51
              have CH_51 := CH_48.and cc_48_51
              exact ⟨(by omega), (fun q hq => by rcases List.mem_cons.1 hq with rfl | hq; (have := df_51.lt; omega); (have := hds q hq; omega)), (fun h => by omega), (by omega), (by omega), (by omega), (by omega), (by omega), so_51, b19_51, ((dfs_51).cons df_51.blk (by omega) (fun q hq => by have := hds q hq; omega)), nl_51, b12_51, b4_51, b5_51, b6_51, b7_51, sc_51, lt_51, er_51, st_51, tab_51, bn_51, cn_51, CH_51⟩
        · skip
          refine VC.exit ?_
          refine VQ.then_exit ?_
          refine VQ.then_exit ?_
          refine VQ.block_exit ?_
          refine VQ.then_code ?_
          refine VC.seq ?_
          refine VC.region ?_
          refine VO.wk0 (Wk.put Tryz.sizeOf4 rfl rfl rfl rfl b6_31 rfl) rfl rfl ?_
          intro _ w52 Z52
          have c52 := Z52.ch; have z52 := Z52.size
          have b6_52 := Bk.put Z52
          refine VO.nil ?_
          refine VQ.then_code ?_
          refine VC.ret ?_
          have dfs_52 := dfs_31.to c52 (by first | exact fun _ _ _ _ => id | (intro q h1 h2 h3 h4; first | exact absurd h2 (by rw [hdsE]; simp) | (have := hds q h2; omega)))
          refine VQ.dropAll _ _ dfs_52 ?_
          intro w53 g53
          have z53 := g53.size
          refine VQ.toM ?_
          have b6_53 := b6_52.toG g53
          refine VQ.retc1 rfl rfl Tryz.isAgg4 (b6_53.cell rfl) ?_
          refine Ret.mk ?_
          have CH_52 : Ch (No) w w52 := CH_31.then c52 (by intro q h1 h2; rcases h2 with h2 | h2 <;> first | exact h2 | (exfalso; omega) | omega)
          have CH_53 := CH_52.toG g53 (by omega)
          exact ⟨rfl, CH_53⟩

end Go.Tm
