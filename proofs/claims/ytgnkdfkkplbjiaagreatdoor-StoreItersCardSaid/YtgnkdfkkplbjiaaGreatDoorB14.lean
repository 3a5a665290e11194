/- Lemmas of this claim, joined by program. Walks of functions: who goes. What a row's laid variables give the walks; an argument that is a slice of operations. Walks of functions: bytes of numbers and texts. Conditions: each lemma names its own. -/
import Derived.Test.YtgnkdfkkplbjiaaGreatDoorB13
import Derived.Test.YtgnkdfkkplbjiaaGreatDoorRows
import Derived.ProofKit
import Derived.LaidMore
import Derived.LaidSub
import Derived.OpenShut
import Derived.Stop.Joined
import Derived.Stop.LaidErr
import Derived.Lib.LaidTab
import Derived.Deep.Slices
import Derived.Deep.Fields
import Derived.Deep.OwnRows
import Derived.WideKeyArgs
set_option linter.all false
namespace Go.Tm
open Go.RowKit Go.Proofs
theorem guardU {ops : Array Oper} {n : Fr} {k : K} {o : Oper} {a : Act} {j t : Nat} {wt : Bool} (hg : o.guard = some (j, wt)) (hj : (ops[j]?).bind (·.dst) = some t) (hk : kget k t = some undef) (ha : Fits n k a) : Region.wanted o (yielded ops a.tmps) = false := by
  unfold Region.wanted
  rw [hg]
  have h1 : (ops[j]?).bind (fun x => x.dst) = some t := hj
  have : yielded ops a.tmps j = none := by
    unfold yielded
    rw [h1]
    simp [ha.known t _ hk, undef]
  show (yielded ops a.tmps j == some wt) = false
  rw [this]; rfl
theorem VH.skipU {P : Program} {n : Fr} {ops : Array Oper} {Q : Exit → Act → World → Prop} {S : World → Prop} {Lq : Act → World → Prop} {order : List (Nat × Bool)} {k : K} {w : World} {o : Oper} {i d j t : Nat} {wt : Bool} (ho : ops[i]? = some o) (hd : o.dst = some d) (hg : o.guard = some (j, wt)) (hj : (ops[j]?).bind (·.dst) = some t) (hk : kget k t = some undef) (hn : Nat.blt d n.sz = true)
    (h : VH P n ops Q S Lq order ((d, undef) :: k) w) : VH P n ops Q S Lq ((i, true) :: order) k w := fun a ha =>
  ⟨o, undef, ho, .inr ⟨guardU hg hj hk ha, rfl⟩, by rw [hd]; exact h _ (ha.put hn undef)⟩
structure Opn where
  kd : Int
  nm : Nm
  N : Int
  way : Int
def Opn.cells (o : Opn) : List Value := [.int .i64 o.kd, strV o.nm, .int .i64 o.N, .int .i64 o.way]
def flatO (l : List Opn) : List Value := l.flatMap Opn.cells
theorem flatO_get : ∀ (L : List Opn) (i : Nat) (s : Opn), L[i]? = some s → ∀ j v, s.cells[j]? = some v → (flatO L)[i * 4 + j]? = some v
  | [], _, _, h, _, _, _ => by simp at h
  | t :: L, 0, s, h, j, v, hj => by
    simp at h; subst h
    have hl : j < t.cells.length := (List.getElem?_eq_some_iff.1 hj).1
    show (t.cells ++ flatO L)[0 * 4 + j]? = some v
    rw [Nat.zero_mul, Nat.zero_add, List.getElem?_append_left hl]; exact hj
  | t :: L, i + 1, s, h, j, v, hj => by
    simp only [List.getElem?_cons_succ] at h
    show (t.cells ++ flatO L)[(i + 1) * 4 + j]? = some v
    have h7 : t.cells.length = 4 := rfl
    rw [List.getElem?_append_right (by rw [h7]; omega), h7, show (i + 1) * 4 + j - 4 = i * 4 + j by omega]
    exact flatO_get L i s h j v hj
theorem sl_op {S : Nat → Prop} {w : World} {A : Option Addr} {l : Nat} {L : List Opn} (h : SlR S w A l 4 (flatO L)) (hl : l = L.length) {i : Nat} {s : Opn} (hi : L[i]? = some s) : CaR S w ((sAddr A).add (i * 4)) s.cells := by
  have hlt := (List.getElem?_eq_some_iff.1 hi).1
  obtain ⟨ad, had⟩ := h.ne (by omega)
  refine ⟨h.part (i := i) (by omega) (flatO_get L i s hi), ?_⟩
  rw [add_block]; subst had; exact h.ok ad rfl
def okNm (x : Nm) : Prop := 1 ≤ x.length ∧ x.length ≤ 64
instance (x : Nm) : Decidable (okNm x) := by unfold okNm; infer_instance
def keepE (E : Nat → Addr) (x : Nm) : Value := if okNm x then .nilIface else errV E 1
theorem Rn.if_eql_nil {P : Program} {n : Fr} {k : K} {w : World} {d : Option Nat} {ty : TypeId} {pos : String} {aft : Array Edge} {g : Option (Nat × Bool)} {t t' : TypeId} {x : Operand} {p : Prop} [Decidable p] {u : TypeId} {z : Value} {m : Array (String × TypeId)} (ht : P.underlying t = some (.interface m)) (hx : ev k x = some (if p then .nilIface else .iface u z)) :
    Rn P n k w { dst := d, op := .binOp .eql t x (.const .nilIface) t', type := ty, pos := pos, after := aft, guard := g } (.bool (decide p)) := by
  by_cases h : p
  · rw [if_pos h] at hx; rw [decide_eq_true h]; exact Rn.nil_eql_nil ht hx
  · rw [if_neg h] at hx; rw [decide_eq_false h]; exact Rn.err_eql_nil ht hx
/-- Keep, whatever the name. -/
theorem st_Keep_any (E : Nat → Addr) (B p mo q mb r : Nat) (L : List Nm) (m : List (Nm × Value)) (x : Nm) (w : World) (sr : StR w q mb r 0 mo L m) (hL : L.length ≤ 100000) (er : ErrT B E w) (dm : DomI L m) :
    Calls Tryz.prog 8 #[.pointer (some ⟨q, 0, none⟩), strV x, .pointer (some ⟨p, 0, none⟩)] w (Ret fun v w' => ∃ r' L' m', v = keepE E x ∧ ((okNm x ∧ L' = keepL mo x L ∧ m' = keepM mo x (.pointer (some ⟨p, 0, none⟩)) L m) ∨ (¬ okNm x ∧ L' = L ∧ m' = m)) ∧ DomI L' m' ∧ StR w' q mb r' 0 mo L' m' ∧ (r' = r ∨ w.heap.size < r') ∧ Ch (QS q mb r) w w') := by
  by_cases hx : okNm x
  · refine (st_Keep E p mo q mb r L m x w sr hL hx).mono ?_
    rintro e w' ⟨v, rfl, r', rfl, h1, h2, h3⟩
    exact ⟨_, rfl, r', _, _, by rw [keepE, if_pos hx], .inl ⟨hx, rfl, rfl⟩, dm.keep mo x _, h1, h2, h3⟩
  · refine (st_Keep_bad E (.pointer (some ⟨p, 0, none⟩)) mo q mb r L m x w sr hL B er hx).mono ?_
    rintro e w' ⟨v, rfl, rfl, rfl⟩
    exact ⟨_, rfl, r, L, m, by rw [keepE, if_neg hx], .inr ⟨hx, rfl, rfl⟩, dm, sr, .inl rfl, Ch.refl _ _⟩
def getE (E : Nat → Addr) (x : Nm) (L : List Nm) : Value := if x ∈ L then .nilIface else errV E 2
/-- Get, whatever the name. -/
theorem st_Get_any (E : Nat → Addr) (B mo q mb r : Nat) (L : List Nm) (m : List (Nm × Value)) (x : Nm) (w : World) (sr : StR w q mb r 0 mo L m) (hL : L.length ≤ 100000) (er : ErrT B E w) (hq : B ≤ q) (dm : DomI L m) :
    Calls Tryz.prog 9 #[.pointer (some ⟨q, 0, none⟩), strV x] w (Ret fun v w' => ∃ r' L' pv, v = .tuple #[pv, getE E x L] ∧ ((x ∈ L ∧ L' = x :: without x L) ∨ (x ∉ L ∧ L' = L)) ∧ DomI L' m ∧ StR w' q mb r' 0 mo L' m ∧ (r' = r ∨ w.heap.size < r') ∧ Ch (QS q mb r) w w') := by
  cases hm : mfind m x with
  | some pv =>
    have hx : x ∈ L := (dm.dom x).1 (by rw [hm]; rfl)
    refine (st_Get pv mo q mb r L m x w sr hL hm).mono ?_
    rintro e w' ⟨v, rfl, r', rfl, h1, h2, h3⟩
    exact ⟨_, rfl, r', _, pv, by rw [getE, if_pos hx], .inl ⟨hx, rfl⟩, dm.touch hx, h1, h2, h3⟩
  | none =>
    have hx : x ∉ L := fun h => by have := (dm.dom x).2 h; rw [hm] at this; cases this
    refine (st_Get_miss E mo q mb r L m x w sr hL B er hq hm).mono ?_
    rintro e w' ⟨v, rfl, rfl, h1, h3⟩
    exact ⟨_, rfl, r, L, _, by rw [getE, if_neg hx], .inr ⟨hx, rfl⟩, dm, h1, .inl rfl, h3⟩
theorem lately_true (U L : List Nm) (ro : Nat) (S1 S2 : Nat → Prop) (A B : Option Addr) (c d : Nat) (w : World) (ul : Nat) (hul : U.length = ul) (su : SlR S1 w A ul 1 (U.map strV)) (sl : SlR S2 w B L.length 1 (L.map strV)) (hU : ul ≤ 9223372036854775807) (hL : L.length ≤ 1000000) (hr : ro ≤ 1000) (hS1 : ∀ y, S1 y → y < w.heap.size) (hS2 : ∀ y, S2 y → y < w.heap.size) (h : L = lateGo ro U.reverse []) :
    Calls Tryz.prog 12 #[.slice A ul c, .slice B L.length d, .int .i64 ro] w (Ret fun v w' => v = .bool true ∧ Ch No w w') := by
  subst hul
  refine (law_lately U L ro S1 S2 A B c d w su sl hU hL hr hS1 hS2).mono ?_
  rintro e w' ⟨v, rfl, rfl, h3⟩
  exact ⟨_, rfl, by rw [decide_eq_true h], h3⟩
section
variable {P : Program} {n : Fr} {k : K} {w : World} {d : Option Tmp} {ty : TypeId} {pos : String} {aft : Array Edge} {g : Option (Nat × Bool)} {t t' : TypeId} {x y : Operand} {q : IntKind} {a b : Int}
theorem Rn.eqlF (hx : ev k x = some (.int q a)) (hy : ev k y = some (.int q b)) (h : a ≠ b) : Rn P n k w { dst := d, op := .binOp .eql t x y t', type := ty, pos := pos, after := aft, guard := g } (.bool false) := by
  have := Rn.eql (P := P) (n := n) (w := w) (d := d) (ty := ty) (pos := pos) (aft := aft) (g := g) (t := t) (t' := t') hx hy
  rwa [decide_eq_false h] at this
theorem Rn.addTo {r : Int} (hx : ev k x = some (.int q a)) (hy : ev k y = some (.int q b)) (h : q.wrap (a + b) = r) : Rn P n k w { dst := d, op := .binOp .add t x y t', type := ty, pos := pos, after := aft, guard := g } (.int q r) := by
  subst h; exact Rn.addw hx hy
theorem Rn.gtrF (hx : ev k x = some (.int q a)) (hy : ev k y = some (.int q b)) (h : ¬ b < a) : Rn P n k w { dst := d, op := .binOp .gtr t x y t', type := ty, pos := pos, after := aft, guard := g } (.bool false) := by
  have := Rn.gtr (P := P) (n := n) (w := w) (d := d) (ty := ty) (pos := pos) (aft := aft) (g := g) (t := t) (t' := t') hx hy
  rwa [decide_eq_false h] at this
theorem Rn.nm_neqF {s u : List UInt8} (hx : ev k x = some (strV s)) (hy : ev k y = some (strV u)) (h : s = u) : Rn P n k w { dst := d, op := .binOp .neq t x y t', type := ty, pos := pos, after := aft, guard := g } (.bool false) := by
  have := Rn.nm_neq (P := P) (n := n) (w := w) (d := d) (ty := ty) (pos := pos) (aft := aft) (g := g) (t := t) (t' := t') hx hy
  rwa [decide_eq_false (fun h' => h' h)] at this
end
def roomN (M : Int) : Nat := 1 + ((IntKind.u64.wrap M) % 8).toNat
theorem roomN_bd (M : Int) : 1 ≤ roomN M ∧ roomN M ≤ 8 := by unfold roomN; rw [IntKind.wrap_u64]; omega
theorem names_keep {ro : Nat} (h1 : 1 ≤ ro) {U L L' : List Nm} {x : Nm} (hL : L = (dd U.reverse).take ro) (h : L' = keepL ro x L) : L' = (dd (U ++ [x]).reverse).take ro ∧ L'.head? = some x ∧ L'.length ≤ ro := by
  subst h; subst hL
  have e : keepL ro x ((dd U.reverse).take ro) = (dd (U ++ [x]).reverse).take ro := by
    rw [keepL_take h1 (dd_nodup _)]; simp [dd]
  refine ⟨e, ?_, ?_⟩
  · rw [e]
    obtain ⟨n, rfl⟩ : ∃ n, ro = n + 1 := ⟨ro - 1, by omega⟩
    simp [dd]
  · rw [e]; simp; omega
theorem touch_keep {ro : Nat} (h1 : 1 ≤ ro) {U L : List Nm} {x : Nm} (hL : L = (dd U.reverse).take ro) (hx : x ∈ L) : x :: without x L = keepL ro x L := by
  subst hL
  rw [keepL_take h1 (dd_nodup _), touchL_take (dd_nodup _) hx]

set_option maxRecDepth 100000 in
theorem inf9w30 : Inf Tryz.prog 9 (.string ⟨#[]⟩) 1 16 := ⟨Tryz.t9, Tryz.type9, rfl, rfl, rfl⟩
theorem bld32_2w30 {v2 : Value} (h : [v2].all Value.oneCell' = true) (w : World) : (Instr.build 32 ([(2, v2)] : List (Nat × Value)).toArray).run Tryz.prog w = .ok (.agg #[.int .i64 0, .string ⟨#[]⟩, v2, .int .i64 0]) w := by
  simp only [List.all_cons, Bool.and_eq_true, List.all_nil, and_true] at h
  have hv2 := oneCell_cells (v := v2) (by simp_all)
  have h1 := fill_set (fun i => ([(0, 1), (1, 1), (2, 1), (3, 1)] : List (Nat × Nat))[i]?) [(2, v2)] [.int .i64 0, .string ⟨#[]⟩, .int .i64 0, .int .i64 0] (by simp [okF, agg_cells, hv2, Nat.beq, Nat.ble])
  simp [setF, agg_cells, hv2] at h1
  simp [Instr.build, Tryz.runUnderlying32, Tryz.zeroValue32, Tryz.sizeOf3, Tryz.sizeOf9, agg_cells, h1]
set_option maxHeartbeats 4000000 in
set_option maxRecDepth 100000 in
theorem storeLately (M : Int) (SC : List Opn) (S : Nat → Prop) (A : Option Addr) (c : Nat) (B : Nat) (E : Nat → Addr) (w : World) (sc : SlR S w A SC.length 4 (flatO SC)) (hS : ∀ y, S y → y < w.heap.size) (hlen : SC.length ≤ 9223372036854775807) (er : ErrT B E w) (hB : B ≤ w.heap.size) (st : StT w) (tab : TabB w.heap.size w) :
    Calls Tryz.prog 3 #[.int .i64 M, .slice A SC.length c] w (Ret (fun v w' => v = .bool true ∧ Ch No w w')) := by
  have hgn := er.gn; have hrm := roomN_bd M; have hu0 : 0 ≤ IntKind.u64.wrap M := by rw [IntKind.wrap_u64]; omega
  have hrme : (roomN M : Int) = 1 + IntKind.u64.wrap M % 8 := by unfold roomN; rw [IntKind.wrap_u64]; omega
  refine calls_of_VC (args := [.int .i64 M, .slice A SC.length c]) Tryz.func3 rfl Tryz.ntmps3 rfl ?_
  refine VC.seq ?_
  refine VC.region ?_
  refine VO.mv (Rn.assign rfl) rfl rfl rfl ?_
  refine VO.nil ?_
  refine VQ.then_code ?_
  refine VC.seq ?_
  refine VC.seq ?_
  refine VC.region ?_
  refine VO.wk (Wk.call Tryz.call5 rfl (law_lives B E _ er (by omega) st ((tab).up (by omega)))) rfl rfl rfl ?_
  rintro _ w1 ⟨rfl, c1⟩
  have z1 := c1.size
  refine VO.mv (Rn.not rfl) rfl rfl rfl ?_
  refine VO.nil ?_
  refine VQ.then_code ?_
  refine VC.cond_false rfl ?_
  refine VC.skip ?_
  refine VQ.then_code ?_
  refine VC.seq ?_
  refine VC.region ?_
  refine VO.mv (Rn.move rfl) rfl rfl rfl ?_
  refine VO.mv (Rn.conv Tryz.underlying3 Tryz.underlying24 rfl) rfl rfl rfl ?_
  refine VO.mv (Rn.rem0 rfl rfl hu0 (by omega)) rfl rfl rfl ?_
  refine VO.mv (Rn.conv_in Tryz.underlying75 Tryz.underlying3 rfl (by rw [IntKind.wrap_i64]; omega)) rfl rfl rfl ?_
  refine VO.mv (Rn.addTo rfl rfl (r := ((roomN M : Nat) : Int)) (by rw [hrme, IntKind.wrap_i64]; omega)) rfl rfl rfl ?_
  refine VO.mv (Rn.assign rfl) rfl rfl rfl ?_
  refine VO.nil ?_
  refine VQ.then_code ?_
  refine VC.seq ?_
  refine VC.region ?_
  refine VO.mv (Rn.move rfl) rfl rfl rfl ?_
  refine VO.wk (Wk.call Tryz.call6 rfl (store_New E (roomN M) (by omega) (by omega) _)) rfl rfl rfl ?_
  rintro _ w2 ⟨q2, mb2, rfl, sr2, ymb2, yq2, c2⟩
  have ls2 := sr2.lt
  have z2 := c2.size
  refine VO.mv (Rn.move rfl) rfl rfl rfl ?_
  refine VO.mv (Rn.extract rfl rfl) rfl rfl rfl ?_
  refine VO.mv (Rn.extract rfl rfl) rfl rfl rfl ?_
  refine VO.mv (Rn.assign rfl) rfl rfl rfl ?_
  refine VO.mv (Rn.assign rfl) rfl rfl rfl ?_
  refine VO.nil ?_
  refine VQ.then_code ?_
  refine VC.seq ?_
  refine VC.seq ?_
  refine VC.region ?_
  refine VO.mv (Rn.move rfl) rfl rfl rfl ?_
  refine VO.mv (Rn.nil_neq_nil Tryz.underlying27 rfl) rfl rfl rfl ?_
  refine VO.mv (Rn.move rfl) rfl rfl rfl ?_
  refine VO.mv (Rn.move rfl) rfl rfl rfl ?_
  refine VO.mv (Rn.ptr_eql_nil Tryz.underlying25 rfl) rfl rfl rfl ?_
  refine VO.mv (Rn.pick_false rfl rfl) rfl rfl rfl ?_
  refine VO.mv (Rn.move rfl) rfl rfl rfl ?_
  refine VO.mv (Rn.move rfl) rfl rfl rfl ?_
  refine VO.mv (Rn.len Tryz.underlying22 rfl) rfl rfl rfl ?_
  refine VO.mv (Rn.gtr rfl rfl) rfl rfl rfl ?_
  refine VO.mv (Rn.pick_false rfl rfl) rfl rfl rfl ?_
  refine VO.nil ?_
  refine VQ.then_code ?_
  refine VC.cond_if rfl (fun hc1 => ?_) (fun hc1 => ?_)
  · skip
    refine VC.seq ?_
    refine VC.region ?_
    refine VO.mv (Rn.move rfl) rfl rfl rfl ?_
    refine VO.mv (Rn.nil_eql_nil Tryz.underlying27 rfl) rfl rfl rfl ?_
    refine VO.mv (Rn.move rfl) rfl rfl rfl ?_
    refine VO.mv (Rn.move rfl) rfl rfl rfl ?_
    refine VO.mv (Rn.ptr_neq_nil Tryz.underlying25 rfl) rfl rfl rfl ?_
    refine VO.mv (Rn.pick_true rfl rfl) rfl rfl rfl ?_
    refine VO.mv (Rn.assign rfl) rfl rfl rfl ?_
    refine VO.nil ?_
    refine VQ.then_code ?_
    refine VC.ret ?_
    refine VQ.then_ret ?_
    refine VQ.ret1 rfl rfl ?_
    refine Ret.mk ?_
    have CH_2 := (Ch.refl (No) w).and (c1.trans c2)
    exact ⟨rfl, CH_2⟩
  · skip
    refine VC.skip ?_
    refine VQ.then_code ?_
    refine VC.seq ?_
    refine VC.region ?_
    refine VO.wk (Wk.lit0 Tryz.underlying30 inf9w30) rfl rfl rfl ?_
    rintro _ w3 ⟨p3, rfl, N3⟩
    have c3 := N3.ch
    have e3 := N3.p; have z3 := N3.size
    have l46o := Ow.of_new (cs := []) (sz := 1) (l := 0) N3 rfl (by decide)
    refine VO.mv (Rn.assign rfl) rfl rfl rfl ?_
    refine VO.nil ?_
    refine VQ.then_code ?_
    refine VC.seq ?_
    refine VC.seq ?_
    refine VC.region ?_
    refine VO.mv (Rn.move rfl) rfl rfl rfl ?_
    refine VO.mv (Rn.len Tryz.underlying22 rfl) rfl rfl rfl ?_
    refine VO.mv (Rn.move rfl) rfl rfl rfl ?_
    refine VO.nil ?_
    refine VQ.then_code ?_
    refine VC.block ?_
    have sr_3 := sr2.keep c3
    have sc_3 := sc.keep (c1.trans (c2.trans c3))
    have er_3 := er.keep (c1.trans (c2.trans c3))
    have st_3 := st.keep (c1.trans (c2.trans c3))
    have tab_3 := tab.keep (c1.trans (c2.trans c3))
    have CH_3 := (Ch.refl (No) w).and (c1.trans (c2.trans c3))
    refine VC.loopS (σ := Nat × List Nm × Nat × Nat × Option Addr × Nat) (fun (i, U, ul, ru, UA, uc) => [(5, .int .i64 (roomN M)), (6, .pointer (some ⟨q2, 0, none⟩)), (8, .slice UA ul uc), (47, .slice A SC.length c), (48, .int .i64 SC.length), (49, .int .i64 i)]) (fun (i, U, ul, ru, UA, uc) w' => ∃ rs L m, i ≤ SC.length ∧ U.length = ul ∧ ul ≤ i ∧ DomI L m ∧ L = (dd U.reverse).take (roomN M) ∧ (rs = 0 ∨ w2.heap.size < rs) ∧ w2.heap.size < ru ∧ ru ≠ rs ∧ StR w' q2 mb2 rs 0 (roomN M) L m ∧ Ow w' ru 9 1 UA ul uc (U.map strV) ∧ SlR S w' A SC.length 4 (flatO SC) ∧ ErrT B E w' ∧ StT w' ∧ TabB w.heap.size w' ∧ Ch No w w') (fun (i, U, ul, ru, UA, uc) => SC.length - i) (0, [], 0, (p3 + 1), (some ⟨p3, 0, none⟩), 0) ?_ ⟨rfl, rfl, rfl, rfl, rfl, rfl, trivial⟩ ?_
    · exact ⟨0, [], [], Nat.zero_le _, rfl, Nat.le_refl _, DomI.nil, by simp [dd], .inl rfl, by omega, by omega, sr_3, l46o, sc_3, er_3, st_3, tab_3, CH_3⟩
    rintro ⟨i, U, ul, ru, UA, uc⟩ w4 ⟨rs, L, m, hi, hul, hui, dm, hLd, hrs, hru, hrur, sr_4, us_4, sc_4, er_4, st_4, tab_4, CH_4⟩
    show VC _ _ _ _ [(5, .int .i64 (roomN M)), (6, .pointer (some ⟨q2, 0, none⟩)), (8, .slice UA ul uc), (47, .slice A SC.length c), (48, .int .i64 SC.length), (49, .int .i64 i)] _
    have zc := CH_4.size; have ls := sr_4.lt; have lus := us_4.lt; have hLl : L.length ≤ 8 := by rw [hLd]; simp; omega
    refine VC.seq ?_
    refine VC.region ?_
    refine VO.mv (Rn.lss rfl rfl) rfl rfl rfl ?_
    refine VO.nil ?_
    refine VQ.then_code ?_
    refine VC.seq ?_
    refine VC.cond_if rfl (fun hc2 => ?_) (fun hc2 => ?_)
    · skip
      refine VC.skip ?_
      refine VQ.then_code ?_
      refine VC.seq ?_
      refine VC.block ?_
      refine VC.seq ?_
      obtain ⟨o, ho⟩ : ∃ o, SC[i]? = some o := ⟨_, List.getElem?_eq_getElem (by omega)⟩
      have ko := sl_op sc_4 rfl ho
      refine VC.region ?_
      refine VO.mv (Rn.indexS Tryz.underlying22 Tryz.sizeOf32 rfl rfl (sc_4.ne (by omega)) (by omega) (by omega)) rfl rfl rfl ?_
      refine VO.mv (Rn.loads Tryz.isAgg32 Tryz.sizeOf32 rfl rfl ko.1) rfl rfl rfl ?_
      refine VO.wk (Wk.alloc Tryz.zeroValue32) rfl rfl rfl ?_
      rintro _ w5 ⟨p5, rfl, N5⟩
      have c5 := N5.ch
      have e5 := N5.p; have z5 := N5.size
      have b10 := Bk.new N5
      refine VO.wk0 (Wk.puts Tryz.sizeOf32 rfl rfl rfl rfl b10 (Nat.le_of_ble_eq_true rfl)) rfl rfl ?_
      intro _ w6 Z6
      have c6 := Z6.ch; have z6 := Z6.size
      have b10_6 := Bk.put Z6
      refine VO.nil ?_
      refine VQ.then_code ?_
      refine VC.seq ?_
      refine VC.region ?_
      refine VO.mv (Rn.assign rfl) rfl rfl rfl ?_
      refine VO.nil ?_
      refine VQ.then_code ?_
      refine VC.cut (σ := Bool × List Nm) (fun (us, L1) => [(5, .int .i64 (roomN M)), (6, .pointer (some ⟨q2, 0, none⟩)), (8, .slice UA ul uc), (10, .pointer (some ⟨p5, 0, none⟩)), (11, .bool us), (47, .slice A SC.length c), (48, .int .i64 SC.length), (49, .int .i64 i)]) (fun (us, L1) w' => ∃ r1 m1, ((us = true ∧ L1 = keepL (roomN M) o.nm L) ∨ (us = false ∧ L1 = L)) ∧ DomI L1 m1 ∧ (r1 = 0 ∨ w2.heap.size < r1) ∧ ru ≠ r1 ∧ r1 ≠ p5 + 1 ∧ ru ≠ p5 + 1 ∧ StR w' q2 mb2 r1 0 (roomN M) L1 m1 ∧ Ow w' ru 9 1 UA ul uc (U.map strV) ∧ Bk w' p5 #[.int .i64 o.kd, strV o.nm, .int .i64 o.N, .int .i64 o.way] 32 ∧ SlR S w' A SC.length 4 (flatO SC) ∧ ErrT B E w' ∧ StT w' ∧ TabB w.heap.size w' ∧ w6.heap.size ≤ w'.heap.size ∧ Ch No w w') ?_ ?_
      · skip
        refine VC.seq ?_
        refine VC.region ?_
        refine VO.mv (Rn.field Tryz.underlying32 rfl Tryz.sizeOf3 rfl rfl rfl) rfl rfl rfl ?_
        refine VO.mv (Rn.load Tryz.isAgg3 rfl (b10_6.cell rfl)) rfl rfl rfl ?_
        refine VO.nil ?_
        refine VQ.then_code ?_
        refine VC.block ?_
        refine VC.seq ?_
        refine VC.region ?_
        refine VO.mv (Rn.eql rfl rfl) rfl rfl rfl ?_
        refine VO.mv (Rn.assign rfl) rfl rfl rfl ?_
        refine VO.nil ?_
        refine VQ.then_code ?_
        refine VC.cond_if rfl (fun hc3 => ?_) (fun hc3 => ?_)
        · skip
          refine VC.seq ?_
          refine VC.region ?_
          refine VO.mv (Rn.field Tryz.underlying32 rfl Tryz.sizeOf3 rfl rfl rfl) rfl rfl rfl ?_
          refine VO.mv (Rn.load Tryz.isAgg3 rfl (b10_6.cell rfl)) rfl rfl rfl ?_
          refine VO.mv (Rn.rem rfl rfl (by decide)) rfl rfl rfl ?_
          refine VO.mv (Rn.build rfl (bld32_2w30 rfl)) rfl rfl rfl ?_
          have cc_4_6 : Ch No w4 w6 := (Ch.then (E := No) c5 c6 (by intro q h1 h2; rcases h2 with h2 | h2 <;> first | exact h2 | (exfalso; omega)))
          have st_6 := st_4.keep cc_4_6
          have tab_6 := tab_4.keep cc_4_6
          refine VO.wk (Wk.call Tryz.call7 rfl (planOf0 0 (o.N.tmod 4) [] _ st_6 ((tab_6).up (by omega)) (by omega))) rfl rfl rfl ?_
          rintro _ w7 ⟨pp, rpp, rfl, _, _, c7⟩
          have z7 := c7.size
          refine VO.mv (Rn.assign rfl) rfl rfl rfl ?_
          refine VO.nil ?_
          refine VQ.then_code ?_
          refine VC.seq ?_
          refine VC.seq ?_
          refine VC.region ?_
          refine VO.mv (Rn.move rfl) rfl rfl rfl ?_
          refine VO.mv (Rn.ptr_eql_nil Tryz.underlying33 rfl) rfl rfl rfl ?_
          refine VO.nil ?_
          refine VQ.then_code ?_
          refine VC.cond_false rfl ?_
          refine VC.skip ?_
          refine VQ.then_code ?_
          refine VC.region ?_
          refine VO.mv (Rn.move rfl) rfl rfl rfl ?_
          refine VO.mv (Rn.field Tryz.underlying32 rfl Tryz.sizeOf9 rfl rfl rfl) rfl rfl rfl ?_
          have b10_7 := b10_6.keep c7
          refine VO.mv (Rn.load Tryz.isAgg9 rfl (b10_7.cell rfl)) rfl rfl rfl ?_
          refine VO.mv (Rn.move rfl) rfl rfl rfl ?_
          have cc_4_7 : Ch No w4 w7 := ((Ch.then (E := No) c5 c6 (by intro q h1 h2; rcases h2 with h2 | h2 <;> first | exact h2 | (exfalso; omega))).and c7)
          have sr_7 := sr_4.keep cc_4_7
          have er_7 := er_4.keep cc_4_7
          refine VO.wk (Wk.call Tryz.call8 rfl (st_Keep_any E B pp (roomN M) q2 mb2 rs L m o.nm _ sr_7 (by omega) er_7 dm)) rfl rfl rfl ?_
          rintro _ w8 ⟨rk, Lk, mk, rfl, hkp, dmk, sr8, yr8, c8⟩
          have ls8 := sr8.lt
          have z8 := c8.size
          refine VO.mv (Rn.if_eql_nil Tryz.underlying27 rfl) rfl rfl rfl ?_
          refine VO.mv (Rn.assign rfl) rfl rfl rfl ?_
          refine VO.nil ?_
          refine VQ.block_normal ?_
          refine VQ.cut (decide (okNm o.nm), Lk) ?_ ⟨rfl, rfl, rfl, rfl, rfl, rfl, rfl, rfl, trivial⟩
          have us_7 := us_4.keep cc_4_7
          have us_8 := us_7.to c8 (by first | exact fun _ _ _ _ => id | (intro q h1 h2 hx h3; omega))
          have b10_8 := b10_7.to c8 (by first | exact id | omega)
          have sc_7 := sc_4.keep cc_4_7
          have sc_8 := sc_7.to c8 (by first | exact fun _ _ _ _ => id | (intro q h1 h2 hx h3; have := hS q h2; omega))
          have er_8 := er_7.to c8 (by first | exact fun _ _ _ _ => id | (intro q h1 h2 hx h3; omega))
          have st_7 := st_6.keep c7
          have st_8 := st_7.to c8 (by first | exact fun _ _ _ _ => id | (intro q h1 h2 hx h3; omega))
          have tab_7 := tab_6.keep c7
          have tab_8 := tab_7.to c8 (by first | exact fun _ _ _ _ => id | (intro q h1 h2 hx h3; omega))
          have CH_7 := CH_4.and cc_4_7
          have CH_8 : Ch (No) w w8 := CH_7.then c8 (by intro q h1 h2; rcases h2 with h2 | h2 <;> first | exact h2 | (exfalso; omega) | omega)
          exact ⟨rk, _, by rcases hkp with ⟨h1, h2, _⟩ | ⟨h1, h2, _⟩; (left; exact ⟨decide_eq_true h1, h2⟩); (right; exact ⟨decide_eq_false h1, h2⟩), dmk, by omega, by omega, by omega, by omega, sr8, us_8, b10_8, sc_8, er_8, st_8, tab_8, by omega, CH_8⟩
        · skip
          refine VC.seq ?_
          refine VC.region ?_
          refine VO.mv (Rn.eql rfl rfl) rfl rfl rfl ?_
          refine VO.mv (Rn.assign rfl) rfl rfl rfl ?_
          refine VO.nil ?_
          refine VQ.then_code ?_
          refine VC.cond_if rfl (fun hc4 => ?_) (fun hc4 => ?_)
          · skip
            refine VC.seq ?_
            refine VC.region ?_
            refine VO.mv (Rn.move rfl) rfl rfl rfl ?_
            refine VO.mv (Rn.field Tryz.underlying32 rfl Tryz.sizeOf9 rfl rfl rfl) rfl rfl rfl ?_
            refine VO.mv (Rn.load Tryz.isAgg9 rfl (b10_6.cell rfl)) rfl rfl rfl ?_
            have cc_4_6 : Ch No w4 w6 := (Ch.then (E := No) c5 c6 (by intro q h1 h2; rcases h2 with h2 | h2 <;> first | exact h2 | (exfalso; omega)))
            have sr_6 := sr_4.keep cc_4_6
            have er_6 := er_4.keep cc_4_6
            refine VO.wk (Wk.call Tryz.call9 rfl (st_Get_any E B (roomN M) q2 mb2 rs L m o.nm _ sr_6 (by omega) er_6 (by omega) dm)) rfl rfl rfl ?_
            rintro _ w9 ⟨rg, Lg, pv, rfl, hgt, dmg, sr9, yr9, c9⟩
            have ls9 := sr9.lt
            have z9 := c9.size
            refine VO.mv (Rn.move rfl) rfl rfl rfl ?_
            refine VO.mv (Rn.extract rfl rfl) rfl rfl rfl ?_
            refine VO.mv (Rn.extract rfl rfl) rfl rfl rfl ?_
            refine VO.mv (Rn.assign rfl) rfl rfl rfl ?_
            refine VO.mv (Rn.assign rfl) rfl rfl rfl ?_
            refine VO.nil ?_
            refine VQ.then_code ?_
            refine VC.region ?_
            refine VO.mv (Rn.move rfl) rfl rfl rfl ?_
            refine VO.mv (Rn.if_eql_nil Tryz.underlying27 rfl) rfl rfl rfl ?_
            refine VO.mv (Rn.assign rfl) rfl rfl rfl ?_
            refine VO.nil ?_
            refine VQ.block_normal ?_
            refine VQ.cut (decide (o.nm ∈ L), Lg) ?_ ⟨rfl, rfl, rfl, rfl, rfl, rfl, rfl, rfl, trivial⟩
            have us_6 := us_4.keep cc_4_6
            have us_9 := us_6.to c9 (by first | exact fun _ _ _ _ => id | (intro q h1 h2 hx h3; omega))
            have b10_9 := b10_6.to c9 (by first | exact id | omega)
            have sc_6 := sc_4.keep cc_4_6
            have sc_9 := sc_6.to c9 (by first | exact fun _ _ _ _ => id | (intro q h1 h2 hx h3; have := hS q h2; omega))
            have er_9 := er_6.to c9 (by first | exact fun _ _ _ _ => id | (intro q h1 h2 hx h3; omega))
            have st_6 := st_4.keep cc_4_6
            have st_9 := st_6.to c9 (by first | exact fun _ _ _ _ => id | (intro q h1 h2 hx h3; omega))
            have tab_6 := tab_4.keep cc_4_6
            have tab_9 := tab_6.to c9 (by first | exact fun _ _ _ _ => id | (intro q h1 h2 hx h3; omega))
            have CH_6 := CH_4.and cc_4_6
            have CH_9 : Ch (No) w w9 := CH_6.then c9 (by intro q h1 h2; rcases h2 with h2 | h2 <;> first | exact h2 | (exfalso; omega) | omega)
            exact ⟨rg, _, by rcases hgt with ⟨h1, h2⟩ | ⟨h1, h2⟩; (left; exact ⟨decide_eq_true h1, h2.trans (touch_keep (roomN_bd M).1 hLd h1)⟩); (right; exact ⟨decide_eq_false h1, h2⟩), dmg, by omega, by omega, by omega, by omega, sr9, us_9, b10_9, sc_9, er_9, st_9, tab_9, by omega, CH_9⟩
          · skip
            refine VC.skip ?_
            refine VQ.block_normal ?_
            refine VQ.cut (false, L) ?_ ⟨rfl, rfl, rfl, rfl, rfl, rfl, rfl, rfl, trivial⟩
            have cc_4_6 : Ch No w4 w6 := (Ch.then (E := No) c5 c6 (by intro q h1 h2; rcases h2 with h2 | h2 <;> first | exact h2 | (exfalso; omega)))
            have sr_6 := sr_4.keep cc_4_6
            have us_6 := us_4.keep cc_4_6
            have sc_6 := sc_4.keep cc_4_6
            have er_6 := er_4.keep cc_4_6
            have st_6 := st_4.keep cc_4_6
            have tab_6 := tab_4.keep cc_4_6
            have CH_6 := CH_4.and cc_4_6
            exact ⟨rs, m, .inr ⟨rfl, rfl⟩, dm, by omega, by omega, by omega, by omega, sr_6, us_6, b10_6, sc_6, er_6, st_6, tab_6, by omega, CH_6⟩
      rintro ⟨us, L1⟩ w10 ⟨r1, m1, hus, dm1, hr1, hru1, hr1b, hrub, sr_10, us_10, b10_10, sc_10, er_10, st_10, tab_10, hszc, CH_10⟩
      show VC _ _ _ _ [(5, .int .i64 (roomN M)), (6, .pointer (some ⟨q2, 0, none⟩)), (8, .slice UA ul uc), (10, .pointer (some ⟨p5, 0, none⟩)), (11, .bool us), (47, .slice A SC.length c), (48, .int .i64 SC.length), (49, .int .i64 i)] _
      have ls1 := sr_10.lt; have lus1 := us_10.lt; have lb10 := b10_10.lt
      refine VC.seq ?_
      refine VC.seq ?_
      refine VC.region ?_
      refine VO.mv (Rn.move rfl) rfl rfl rfl ?_
      refine VO.nil ?_
      refine VQ.then_code ?_
      refine VC.cond rfl (fun hc5 => ?_) (fun hc5 => ?_)
      · skip
        try simp only [Bool.and_eq_true, Bool.or_eq_true, Bool.not_eq_true', Bool.not_eq_false', Bool.and_eq_false_iff, Bool.or_eq_false_iff, decide_eq_true_eq, decide_eq_false_iff_not] at hc5
        subst hc5
        have hk4 : L1 = keepL (roomN M) o.nm L := by rcases hus with h | h; exact h.2; cases h.1
        have hnk := names_keep hrm.1 hLd hk4
        obtain ⟨U2, hUe⟩ : ∃ U2, U2 = U ++ [o.nm] := ⟨_, rfl⟩
        have hU2 : U2.length = ul + 1 := by rw [hUe]; simp; omega
        have hU3 : U.map strV ++ flat [strV o.nm] = U2.map strV := by rw [hUe]; simp [flat, Value.cells]
        have hfin : L1 = (dd U2.reverse).take (roomN M) := by rw [hUe]; exact hnk.1
        obtain ⟨y0, hy0, hhd⟩ : ∃ y0, y0 = o.nm ∧ L1[0]? = some y0 := ⟨o.nm, rfl, by rw [← List.head?_eq_getElem?]; exact hnk.2.1⟩
        have hll1 := hnk.2.2
        have hlp : 0 < L1.length := (List.getElem?_eq_some_iff.1 hhd).1
        refine VC.region ?_
        refine VO.mv (Rn.move rfl) rfl rfl rfl ?_
        refine VO.mv (Rn.field Tryz.underlying32 rfl Tryz.sizeOf9 rfl rfl rfl) rfl rfl rfl ?_
        refine VO.mv (Rn.load Tryz.isAgg9 rfl (b10_10.cell rfl)) rfl rfl rfl ?_
        refine VO.wk (Wk.lit Tryz.underlying30 inf9w30 (by decide) rfl rfl (by rfl) (by decide) (by decide) (by rfl)) rfl rfl rfl ?_
        rintro _ w11 ⟨p11, rfl, N11⟩
        have c11 := N11.ch
        have e11 := N11.p; have z11 := N11.size
        have l85 := SlR.of_new (sz := 1) (l := 1) N11 rfl
        have l85o := Ow.of_new (sz := 1) (l := 1) N11 rfl (by decide)
        have us_11 := us_10.keep c11
        refine VO.wk (Wk.append (S := _) Tryz.underlying30 inf9w30 rfl (by decide) rfl rfl us_11 l85 (by rfl) (fun h => by simp at h) (by omega) (by simp only [maxLen]; omega)) rfl rfl rfl ?_
        rintro _ w12 ⟨r12, A12, k12, rfl, o12, c12, q12⟩
        have z12 := c12.size
        have y12 := o12.lt
        refine VO.mv (Rn.assign rfl) rfl rfl rfl ?_
        refine VO.nil ?_
        refine VQ.then_code ?_
        refine VC.seq ?_
        refine VC.region ?_
        refine VO.mv (Rn.move rfl) rfl rfl rfl ?_
        have sr_11 := sr_10.keep c11
        have sr_12 := sr_11.to c12 (by first | exact fun _ _ _ _ => id | (intro q h1 h2 hx h3; omega))
        refine VO.wk (Wk.call Tryz.call10 rfl (law_names (roomN M) q2 mb2 r1 L1 m1 _ sr_12 (by omega) (by omega))) rfl rfl rfl ?_
        rintro _ w13 ⟨rn, nA, nc, rfl, nl13, yrn, sr13, c13⟩
        have lnl13 := nl13.lt
        have z13 := c13.size
        refine VO.mv (Rn.move rfl) rfl rfl rfl ?_
        refine VO.mv (Rn.extract rfl rfl) rfl rfl rfl ?_
        refine VO.mv (Rn.extract rfl rfl) rfl rfl rfl ?_
        refine VO.mv (Rn.assign rfl) rfl rfl rfl ?_
        refine VO.mv (Rn.assign rfl) rfl rfl rfl ?_
        refine VO.nil ?_
        refine VQ.then_code ?_
        refine VC.seq ?_
        refine VC.draws 38 [(0, true), (1, true), (2, true), (3, true), (4, true), (5, true), (6, true), (7, true), (8, true), (9, true), (11, true), (12, true), (10, false), (13, true), (14, true), (15, true), (16, true), (17, true), (18, true), (19, true), (20, true), (21, true), (22, true), (23, true), (24, true), (25, true), (26, true), (27, true), (28, true), (29, true), (30, true), (31, true), (32, true), (33, true), (34, true), (35, false), (36, true), (37, true)] (fun w1 w' => Ch (QS q2 mb2 r1) w1 w') mixed (by kernel_rfl) (fun _ _ => Ch.refl _ _) ?_
        intro w14 D14
        have c14 := Ch.of_drew D14; have z14 := c14.size
        have sc_11 := sc_10.keep c11
        have sc_12 := sc_11.to c12 (by first | exact fun _ _ _ _ => id | (intro q h1 h2 hx h3; have := hS q h2; omega))
        have sc_13 := sc_12.to c13 (by first | exact fun _ _ _ _ => id | (intro q h1 h2 hx h3; have := hS q h2; omega))
        have sc_14 := sc_13.keep c14
        have er_11 := er_10.keep c11
        have er_12 := er_11.to c12 (by first | exact fun _ _ _ _ => id | (intro q h1 h2 hx h3; omega))
        have er_13 := er_12.to c13 (by first | exact fun _ _ _ _ => id | (intro q h1 h2 hx h3; omega))
        have er_14 := er_13.keep c14
        have us_13 := o12.to c13 (by first | exact fun _ _ _ _ => id | (intro q h1 h2 hx h3; omega))
        have us_14 := us_13.keep c14
        have b10_11 := b10_10.keep c11
        have b10_12 := b10_11.to c12 (by first | exact id | omega)
        have b10_13 := b10_12.to c13 (by first | exact id | omega)
        have b10_14 := b10_13.keep c14
        have l85o_12 := l85o.to c12 (by first | exact fun _ _ _ _ => id | (intro q h1 h2 hx h3; omega))
        have l85o_13 := l85o_12.to c13 (by first | exact fun _ _ _ _ => id | (intro q h1 h2 hx h3; omega))
        have l85o_14 := l85o_13.keep c14
        have nl_14 := nl13.keep c14
        refine VH.mv (fun w' hS => Rn.move rfl) rfl rfl rfl rfl ?_
        refine VH.mv (fun w' hS => Rn.not rfl) rfl rfl rfl rfl ?_
        refine VH.mv (fun w' hS => Rn.move rfl) rfl rfl rfl rfl ?_
        refine VH.mv (fun w' hS => Rn.move rfl) rfl rfl rfl rfl ?_
        refine VH.mv (fun w' hS => Rn.len Tryz.underlying30 rfl) rfl rfl rfl rfl ?_
        refine VH.mv (fun w' hS => Rn.move rfl) rfl rfl rfl rfl ?_
        refine VH.mv (fun w' hS => Rn.gtrF rfl rfl (by omega)) rfl rfl rfl rfl ?_
        refine VH.mv (fun w' hS => Rn.pick_false rfl rfl) rfl rfl rfl rfl ?_
        refine VH.mv (fun w' hS => Rn.move rfl) rfl rfl rfl rfl ?_
        refine VH.mv (fun w' hS => Rn.move rfl) rfl rfl rfl rfl ?_
        refine VH.mv (fun w' hS => Rn.move rfl) rfl rfl rfl rfl ?_
        refine VH.mv (fun w' hS => Rn.len Tryz.underlying30 rfl) rfl rfl rfl rfl ?_
        have sr_14 := sr13.keep c14
        refine VH.wk (Wk.call Tryz.call11 rfl (st_Len (roomN M) q2 mb2 r1 L1 m1 _ sr_14 (by omega))) rfl rfl rfl rfl ?_
        rintro _ w15 ⟨rfl, sr15, c15⟩
        have z15 := c15.size
        have RD_15 : Ch (QS q2 mb2 r1) w14 w15 := (Ch.refl (QS q2 mb2 r1) w14).then c15 (by intro q h1 h2; rcases h2 with h2 | h2 <;> first | exact h2 | (exfalso; omega) | omega)
        refine ⟨RD_15, ?_⟩
        refine VH.mv (fun w' hS => Rn.neqF rfl rfl rfl) rfl rfl rfl rfl ?_
        refine VH.mv (fun w' hS => Rn.pick_false rfl rfl) rfl rfl rfl rfl ?_
        refine VH.mv (fun w' hS => Rn.move rfl) rfl rfl rfl rfl ?_
        refine VH.mv (fun w' hS => Rn.move rfl) rfl rfl rfl rfl ?_
        refine VH.mv (fun w' hS => Rn.move rfl) rfl rfl rfl rfl ?_
        refine VH.mv (fun w' hS => Rn.move rfl) rfl rfl rfl rfl ?_
        refine VH.mv (fun w' hS => Rn.len Tryz.underlying30 rfl) rfl rfl rfl rfl ?_
        refine VH.mv (fun w' hS => Rn.eqlF rfl rfl (by omega)) rfl rfl rfl rfl ?_
        refine VH.mv (fun w' hS => Rn.move rfl) rfl rfl rfl rfl ?_
        refine VH.mv (fun w' hS => Rn.move rfl) rfl rfl rfl rfl ?_
        refine VH.mv (fun w' hS => Rn.indexS Tryz.underlying30 Tryz.sizeOf9 rfl rfl (nl_14.sl.ne (by omega)) (by omega) (by omega)) rfl rfl rfl rfl ?_
        refine VH.mv (fun w' hS => Rn.load Tryz.isAgg9 rfl (nm_get (((nl_14).to hS (by intro q h1 h2 hx h3; omega)).sl) hhd)) rfl rfl rfl rfl ?_
        refine VH.mv (fun w' hS => Rn.field Tryz.underlying32 rfl Tryz.sizeOf9 rfl rfl rfl) rfl rfl rfl rfl ?_
        refine VH.mv (fun w' hS => Rn.load Tryz.isAgg9 rfl ((b10_14.to hS (by first | exact id | omega)).cell rfl)) rfl rfl rfl rfl ?_
        refine VH.mv (fun w' hS => Rn.nm_neqF rfl rfl hy0) rfl rfl rfl rfl ?_
        refine VH.mv (fun w' hS => Rn.pick_false rfl rfl) rfl rfl rfl rfl ?_
        refine VH.mv (fun w' hS => Rn.pick_true rfl rfl) rfl rfl rfl rfl ?_
        refine VH.mv (fun w' hS => Rn.pick_false rfl rfl) rfl rfl rfl rfl ?_
        refine VH.mv (fun w' hS => Rn.move rfl) rfl rfl rfl rfl ?_
        refine VH.mv (fun w' hS => Rn.move rfl) rfl rfl rfl rfl ?_
        refine VH.mv (fun w' hS => Rn.move rfl) rfl rfl rfl rfl ?_
        refine VH.mv (fun w' hS => Rn.move rfl) rfl rfl rfl rfl ?_
        have us_15 := us_14.to c15 (by first | exact fun _ _ _ _ => id | (intro q h1 h2 hx h3; omega))
        have hrow := (us_15).to' rfl hU3
        have nl_15 := nl_14.to c15 (by first | exact fun _ _ _ _ => id | (intro q h1 h2 hx h3; omega))
        refine VH.wk (Wk.call Tryz.call12 rfl (lately_true U2 L1 (roomN M) _ _ _ _ _ _ _ _ hU2 hrow.sl nl_15.sl (by omega) (by omega) (by omega) (fun y hy => by have := us_15.lt; omega) (fun y hy => by have := nl_15.lt; omega) (by rw [lateGo_nil]; exact hfin))) rfl rfl rfl rfl ?_
        rintro _ w16 ⟨rfl, c16⟩
        have z16 := c16.size
        have RD_16 := RD_15.and c16
        refine ⟨RD_16, ?_⟩
        refine VH.mv (fun w' hS => Rn.not rfl) rfl rfl rfl rfl ?_
        refine VH.mv (fun w' hS => Rn.pick_false rfl rfl) rfl rfl rfl rfl ?_
        refine VH.done ?_
        refine VO.nil ?_
        refine VQ.noPanic ?_
        refine VQ.then_code ?_
        refine VC.cond_false rfl ?_
        refine VC.skip ?_
        refine VQ.block_normal ?_
        refine VQ.then_code ?_
        refine VC.region ?_
        refine VO.mv (Rn.add rfl rfl (by rw [IntKind.wrap_i64]; omega)) rfl rfl rfl ?_
        refine VO.mv (Rn.move rfl) rfl rfl rfl ?_
        refine VO.nil ?_
        refine VQ.round (i + 1, U2, ul + 1, r12, A12, k12) (by (dsimp only; omega)) ?_ ⟨rfl, rfl, rfl, rfl, rfl, rfl, trivial⟩
        have sr_16 := sr15.keep c16
        have us_16 := us_15.keep c16
        have sc_15 := sc_14.to c15 (by first | exact fun _ _ _ _ => id | (intro q h1 h2 hx h3; have := hS q h2; omega))
        have sc_16 := sc_15.keep c16
        have er_15 := er_14.to c15 (by first | exact fun _ _ _ _ => id | (intro q h1 h2 hx h3; omega))
        have er_16 := er_15.keep c16
        have st_11 := st_10.keep c11
        have st_12 := st_11.to c12 (by first | exact fun _ _ _ _ => id | (intro q h1 h2 hx h3; omega))
        have st_13 := st_12.to c13 (by first | exact fun _ _ _ _ => id | (intro q h1 h2 hx h3; omega))
        have st_14 := st_13.keep c14
        have st_15 := st_14.to c15 (by first | exact fun _ _ _ _ => id | (intro q h1 h2 hx h3; omega))
        have st_16 := st_15.keep c16
        have tab_11 := tab_10.keep c11
        have tab_12 := tab_11.to c12 (by first | exact fun _ _ _ _ => id | (intro q h1 h2 hx h3; omega))
        have tab_13 := tab_12.to c13 (by first | exact fun _ _ _ _ => id | (intro q h1 h2 hx h3; omega))
        have tab_14 := tab_13.keep c14
        have tab_15 := tab_14.to c15 (by first | exact fun _ _ _ _ => id | (intro q h1 h2 hx h3; omega))
        have tab_16 := tab_15.keep c16
        have CH_11 := CH_10.and c11
        have CH_12 : Ch (No) w w12 := CH_11.then c12 (by intro q h1 h2; rcases h2 with h2 | h2 <;> first | exact h2 | (exfalso; omega) | omega)
        have CH_13 : Ch (No) w w13 := CH_12.then c13 (by intro q h1 h2; rcases h2 with h2 | h2 <;> first | exact h2 | (exfalso; omega) | omega)
        have CH_14 := CH_13.and c14
        have CH_15 : Ch (No) w w15 := CH_14.then c15 (by intro q h1 h2; rcases h2 with h2 | h2 <;> first | exact h2 | (exfalso; omega) | omega)
        have CH_16 := CH_15.and c16
        exact ⟨r1, L1, m1, by omega, hU2, by omega, dm1, hfin, by omega, by omega, by omega, sr_16, (us_16).to' rfl hU3, sc_16, er_16, st_16, tab_16, CH_16⟩
      · skip
        try simp only [Bool.and_eq_true, Bool.or_eq_true, Bool.not_eq_true', Bool.not_eq_false', Bool.and_eq_false_iff, Bool.or_eq_false_iff, decide_eq_true_eq, decide_eq_false_iff_not] at hc5
        subst hc5
        have hk4 : L1 = L := by rcases hus with h | h; cases h.1; exact h.2
        obtain ⟨U2, hUe⟩ : ∃ U2, U2 = U := ⟨_, rfl⟩
        have hU2 : U2.length = ul := by rw [hUe]; exact hul
        have hU3 : U.map strV = U2.map strV := by rw [hUe]
        have hfin : L1 = (dd U2.reverse).take (roomN M) := by rw [hUe]; exact hk4.trans hLd
        have hll1 : L1.length ≤ roomN M := by rw [hfin]; simp; omega
        refine VC.skip ?_
        refine VQ.then_code ?_
        refine VC.seq ?_
        refine VC.region ?_
        refine VO.mv (Rn.move rfl) rfl rfl rfl ?_
        refine VO.wk (Wk.call Tryz.call10 rfl (law_names (roomN M) q2 mb2 r1 L1 m1 _ sr_10 (by omega) (by omega))) rfl rfl rfl ?_
        rintro _ w17 ⟨rn, nA, nc, rfl, nl17, yrn, sr17, c17⟩
        have lnl17 := nl17.lt
        have z17 := c17.size
        refine VO.mv (Rn.move rfl) rfl rfl rfl ?_
        refine VO.mv (Rn.extract rfl rfl) rfl rfl rfl ?_
        refine VO.mv (Rn.extract rfl rfl) rfl rfl rfl ?_
        refine VO.mv (Rn.assign rfl) rfl rfl rfl ?_
        refine VO.mv (Rn.assign rfl) rfl rfl rfl ?_
        refine VO.nil ?_
        refine VQ.then_code ?_
        refine VC.seq ?_
        refine VC.draws 38 [(0, true), (1, true), (2, true), (3, true), (4, true), (5, true), (6, true), (7, true), (8, true), (9, true), (11, true), (12, true), (10, false), (13, true), (14, true), (15, true), (16, true), (17, true), (18, true), (19, true), (20, true), (21, true), (22, true), (23, true), (24, true), (25, true), (26, true), (27, true), (28, true), (29, true), (30, true), (31, true), (32, true), (33, true), (34, true), (35, false), (36, true), (37, true)] (fun w1 w' => Ch (QS q2 mb2 r1) w1 w') mixed (by kernel_rfl) (fun _ _ => Ch.refl _ _) ?_
        intro w18 D18
        have c18 := Ch.of_drew D18; have z18 := c18.size
        have sc_17 := sc_10.to c17 (by first | exact fun _ _ _ _ => id | (intro q h1 h2 hx h3; have := hS q h2; omega))
        have sc_18 := sc_17.keep c18
        have er_17 := er_10.to c17 (by first | exact fun _ _ _ _ => id | (intro q h1 h2 hx h3; omega))
        have er_18 := er_17.keep c18
        have us_17 := us_10.to c17 (by first | exact fun _ _ _ _ => id | (intro q h1 h2 hx h3; omega))
        have us_18 := us_17.keep c18
        have b10_17 := b10_10.to c17 (by first | exact id | omega)
        have b10_18 := b10_17.keep c18
        have nl_18 := nl17.keep c18
        refine VH.mv (fun w' hS => Rn.move rfl) rfl rfl rfl rfl ?_
        refine VH.mv (fun w' hS => Rn.not rfl) rfl rfl rfl rfl ?_
        refine VH.mv (fun w' hS => Rn.move rfl) rfl rfl rfl rfl ?_
        refine VH.mv (fun w' hS => Rn.move rfl) rfl rfl rfl rfl ?_
        refine VH.mv (fun w' hS => Rn.len Tryz.underlying30 rfl) rfl rfl rfl rfl ?_
        refine VH.mv (fun w' hS => Rn.move rfl) rfl rfl rfl rfl ?_
        refine VH.mv (fun w' hS => Rn.gtrF rfl rfl (by omega)) rfl rfl rfl rfl ?_
        refine VH.mv (fun w' hS => Rn.pick_false rfl rfl) rfl rfl rfl rfl ?_
        refine VH.mv (fun w' hS => Rn.move rfl) rfl rfl rfl rfl ?_
        refine VH.mv (fun w' hS => Rn.move rfl) rfl rfl rfl rfl ?_
        refine VH.mv (fun w' hS => Rn.move rfl) rfl rfl rfl rfl ?_
        refine VH.mv (fun w' hS => Rn.len Tryz.underlying30 rfl) rfl rfl rfl rfl ?_
        have sr_18 := sr17.keep c18
        refine VH.wk (Wk.call Tryz.call11 rfl (st_Len (roomN M) q2 mb2 r1 L1 m1 _ sr_18 (by omega))) rfl rfl rfl rfl ?_
        rintro _ w19 ⟨rfl, sr19, c19⟩
        have z19 := c19.size
        have RD_19 : Ch (QS q2 mb2 r1) w18 w19 := (Ch.refl (QS q2 mb2 r1) w18).then c19 (by intro q h1 h2; rcases h2 with h2 | h2 <;> first | exact h2 | (exfalso; omega) | omega)
        refine ⟨RD_19, ?_⟩
        refine VH.mv (fun w' hS => Rn.neqF rfl rfl rfl) rfl rfl rfl rfl ?_
        refine VH.mv (fun w' hS => Rn.pick_false rfl rfl) rfl rfl rfl rfl ?_
        refine VH.mv (fun w' hS => Rn.move rfl) rfl rfl rfl rfl ?_
        refine VH.mv (fun w' hS => Rn.move rfl) rfl rfl rfl rfl ?_
        refine VH.mv (fun w' hS => Rn.move rfl) rfl rfl rfl rfl ?_
        refine VH.skip rfl rfl rfl rfl ?_
        refine VH.skip rfl rfl rfl rfl ?_
        refine VH.skip rfl rfl rfl rfl ?_
        refine VH.skip rfl rfl rfl rfl ?_
        refine VH.skipU rfl rfl rfl rfl rfl rfl ?_
        refine VH.skipU rfl rfl rfl rfl rfl rfl ?_
        refine VH.skipU rfl rfl rfl rfl rfl rfl ?_
        refine VH.skipU rfl rfl rfl rfl rfl rfl ?_
        refine VH.skipU rfl rfl rfl rfl rfl rfl ?_
        refine VH.skipU rfl rfl rfl rfl rfl rfl ?_
        refine VH.skip rfl rfl rfl rfl ?_
        refine VH.mv (fun w' hS => Rn.pick_false rfl rfl) rfl rfl rfl rfl ?_
        refine VH.mv (fun w' hS => Rn.pick_false rfl rfl) rfl rfl rfl rfl ?_
        refine VH.mv (fun w' hS => Rn.move rfl) rfl rfl rfl rfl ?_
        refine VH.mv (fun w' hS => Rn.move rfl) rfl rfl rfl rfl ?_
        refine VH.mv (fun w' hS => Rn.move rfl) rfl rfl rfl rfl ?_
        refine VH.mv (fun w' hS => Rn.move rfl) rfl rfl rfl rfl ?_
        have us_19 := us_18.to c19 (by first | exact fun _ _ _ _ => id | (intro q h1 h2 hx h3; omega))
        have hrow := (us_19).to' rfl hU3
        have nl_19 := nl_18.to c19 (by first | exact fun _ _ _ _ => id | (intro q h1 h2 hx h3; omega))
        refine VH.wk (Wk.call Tryz.call12 rfl (lately_true U2 L1 (roomN M) _ _ _ _ _ _ _ _ hU2 hrow.sl nl_19.sl (by omega) (by omega) (by omega) (fun y hy => by have := us_19.lt; omega) (fun y hy => by have := nl_19.lt; omega) (by rw [lateGo_nil]; exact hfin))) rfl rfl rfl rfl ?_
        rintro _ w20 ⟨rfl, c20⟩
        have z20 := c20.size
        have RD_20 := RD_19.and c20
        refine ⟨RD_20, ?_⟩
        refine VH.mv (fun w' hS => Rn.not rfl) rfl rfl rfl rfl ?_
        refine VH.mv (fun w' hS => Rn.pick_false rfl rfl) rfl rfl rfl rfl ?_
        refine VH.done ?_
        refine VO.nil ?_
        refine VQ.noPanic ?_
        refine VQ.then_code ?_
        refine VC.cond_false rfl ?_
        refine VC.skip ?_
        refine VQ.block_normal ?_
        refine VQ.then_code ?_
        refine VC.region ?_
        refine VO.mv (Rn.add rfl rfl (by rw [IntKind.wrap_i64]; omega)) rfl rfl rfl ?_
        refine VO.mv (Rn.move rfl) rfl rfl rfl ?_
        refine VO.nil ?_
        refine VQ.round (i + 1, U2, ul, ru, UA, uc) (by (dsimp only; omega)) ?_ ⟨rfl, rfl, rfl, rfl, rfl, rfl, trivial⟩
        have sr_20 := sr19.keep c20
        have us_20 := us_19.keep c20
        have sc_19 := sc_18.to c19 (by first | exact fun _ _ _ _ => id | (intro q h1 h2 hx h3; have := hS q h2; omega))
        have sc_20 := sc_19.keep c20
        have er_19 := er_18.to c19 (by first | exact fun _ _ _ _ => id | (intro q h1 h2 hx h3; omega))
        have er_20 := er_19.keep c20
        have st_17 := st_10.to c17 (by first | exact fun _ _ _ _ => id | (intro q h1 h2 hx h3; omega))
        have st_18 := st_17.keep c18
        have st_19 := st_18.to c19 (by first | exact fun _ _ _ _ => id | (intro q h1 h2 hx h3; omega))
        have st_20 := st_19.keep c20
        have tab_17 := tab_10.to c17 (by first | exact fun _ _ _ _ => id | (intro q h1 h2 hx h3; omega))
        have tab_18 := tab_17.keep c18
        have tab_19 := tab_18.to c19 (by first | exact fun _ _ _ _ => id | (intro q h1 h2 hx h3; omega))
        have tab_20 := tab_19.keep c20
        have CH_17 : Ch (No) w w17 := CH_10.then c17 (by intro q h1 h2; rcases h2 with h2 | h2 <;> first | exact h2 | (exfalso; omega) | omega)
        have CH_18 := CH_17.and c18
        have CH_19 : Ch (No) w w19 := CH_18.then c19 (by intro q h1 h2; rcases h2 with h2 | h2 <;> first | exact h2 | (exfalso; omega) | omega)
        have CH_20 := CH_19.and c20
        exact ⟨r1, L1, m1, by omega, hU2, by omega, dm1, hfin, by omega, by omega, by omega, sr_20, (us_20).to' rfl hU3, sc_20, er_20, st_20, tab_20, CH_20⟩
    · skip
      refine VC.exit ?_
      refine VQ.then_exit ?_
      refine VQ.then_exit ?_
      refine VQ.block_exit ?_
      refine VQ.then_code ?_
      refine VC.seq ?_
      refine VC.region ?_
      refine VO.mv (Rn.assign rfl) rfl rfl rfl ?_
      refine VO.nil ?_
      refine VQ.then_code ?_
      refine VC.ret ?_
      refine VQ.ret1 rfl rfl ?_
      refine Ret.mk ?_
      exact ⟨rfl, CH_4⟩

end Go.Tm
namespace Go.Tm
open Go.RowKit Go.Proofs Go.ChangeShapes Go.WideShapes Go.Deep
open Go.Proofs.YtgnkdfkkplbjiaaGreatDoor
theorem laidVars_at {P : Program} {w : World} : ∀ {l : List (String × DataW Unit)} {ps : List MemPlace} (i : Nat) {x : String × DataW Unit}, DataW.LaidVars P w l ps → l[i]? = some x → ∃ ps', DataW.LaidVars P w [x] ps' ∧ ps'.Sublist ps
  | [], _, _, _, _, h => by simp at h
  | (n, d) :: r, ps, 0, x, h, hi => by
    obtain ⟨g, t, cs, fuel, p, q, e1, e2, e3, e4, hr, rfl⟩ := h
    simp only [List.getElem?_cons_zero, Option.some.injEq] at hi
    subst hi
    exact ⟨_, ⟨g, t, cs, fuel, p, [], e1, e2, e3, e4, rfl, rfl⟩, by rw [List.append_nil]; exact List.sublist_append_left _ _⟩
  | (n, d) :: r, ps, i + 1, x, h, hi => by
    obtain ⟨g, t, cs, fuel, p, q, e1, e2, e3, e4, hr, rfl⟩ := h
    obtain ⟨ps', h1, h2⟩ := laidVars_at i hr (by simpa using hi)
    exact ⟨ps', h1, h2.trans (List.sublist_append_right _ _)⟩
theorem _root_.Go.laidMet.at {P : Program} {w : World} {l : List (String × DataW Unit)} {x : String × DataW Unit} (h : laidMet P l w) (i : Nat) (hi : l[i]? = some x) : laidMet P [x] w := by
  obtain ⟨ps, hl, hnd, hrows⟩ := h
  obtain ⟨ps', h1, h2⟩ := laidVars_at i hl hi
  exact ⟨ps', h1, h2.nodup hnd, fun b off hp => hrows b off (h2.subset hp)⟩
theorem lowStar : "*" ++ "errors.errorString" = "*errors.errorString" := by decide
theorem rowErr (u : TypeId) (h : Tryz.prog.typeName? 3 u = some "*errors.errorString") : u = 211 :=
  typeName_ptr_named (nm := "errors.errorString") (by rw [lowStar]; kernel_rfl) (by kernel_rfl) (by decide) u (by rw [lowStar]; exact h)
noncomputable abbrev laidL : List (String × DataW Unit) := Rows.storeLatelyRow.laid
def errTx : Nat → List UInt8
  | 0 => [116, 105, 109, 98, 114, 101, 58, 32, 108, 105, 109, 105, 116]
  | 1 => [116, 105, 109, 98, 114, 101, 58, 32, 116, 101, 120, 116]
  | 2 => [116, 105, 109, 98, 114, 101, 58, 32, 117, 110, 107, 110, 111, 119, 110]
  | 3 => [116, 105, 109, 98, 114, 101, 58, 32, 109, 111, 100, 101]
  | 4 => [116, 105, 109, 98, 114, 101, 58, 32, 116, 111, 111, 32, 115, 104, 111, 114, 116]
  | 5 => [116, 105, 109, 98, 114, 101, 58, 32, 118, 97, 114, 105, 110, 116]
  | 6 => [116, 105, 109, 98, 114, 101, 58, 32, 116, 97, 105, 108]
  | 7 => [116, 105, 109, 98, 114, 101, 58, 32, 114, 97, 110, 103, 101]
  | 8 => [116, 105, 109, 98, 114, 101, 58, 32, 108, 101, 110, 103, 116, 104]
  | 9 => [116, 105, 109, 98, 114, 101, 58, 32, 111, 114, 100, 101, 114]
  | 10 => [116, 105, 109, 98, 114, 101, 58, 32, 112, 114, 111, 103, 114, 97, 109]
  | 11 => [116, 105, 109, 98, 114, 101, 58, 32, 115, 116, 97, 116, 101]
  | 12 => [116, 105, 109, 98, 114, 101, 58, 32, 114, 111, 111, 116]
  | 13 => [116, 105, 109, 98, 114, 101, 58, 32, 112, 101, 114, 109, 117, 116, 97, 116, 105, 111, 110]
  | 14 => [116, 105, 109, 98, 114, 101, 58, 32, 110, 117, 109, 98, 101, 114]
  | 15 => [116, 105, 109, 98, 114, 101, 58, 32, 119, 111, 114, 107, 101, 114, 115]
  | 16 => [116, 105, 109, 98, 114, 101, 58, 32, 100, 111, 110, 101]
  | 17 => [116, 105, 109, 98, 114, 101, 58, 32, 99, 111, 109, 109, 97, 110, 100]
  | 18 => [116, 105, 109, 98, 114, 101, 58, 32, 101, 120, 97, 99, 116]
  | _ => []
/-- The error in variable g: where it lies. -/
def ErrAt (W : World) (g : Nat) : Prop := ∃ a : Addr, W.cell? ⟨g, 0, none⟩ = some (.iface 211 (.pointer (some a))) ∧ (∃ s : ByteArray, W.cell? a = some (.string s) ∧ s.data.toList = errTx g) ∧ ∃ c t, W.heap[a.block]? = some (.cells c t (0, 0))
set_option maxRecDepth 100000 in
theorem err_of {W : World} {n : String} {g : Nat} (h : laidMet Tryz.prog [(n, .iface "*errors.errorString" (.ptr (.agg [.lit (.string (errTx g))])))] W) (hg : Tryz.prog.globalNamed n = some g) (ht : (Tryz.prog.globals[g]?).map (·.type) = some 27) : ErrAt W g := by
  obtain ⟨ps, ⟨g0, t0, cs0, f0, p0, q0, hg0, ht0, hv0, hd0, _, e0⟩, _, hrows⟩ := h
  obtain rfl := Option.some.inj (hg.symm.trans hg0)
  obtain rfl := Option.some.inj (ht.symm.trans ht0)
  subst e0
  obtain ⟨l0⟩ := cs0
  have ok0 : ∀ u v, l0 = [.iface u v] → Value.okWide Tryz.prog W .any 0 u v := fun u v e => by
    subst e
    exact (hrows g 0 (by simp [MemPlace.row])).2 u v (by simpa using World.var?_cell hg0 hv0 0)
  obtain ⟨a0, s0, rfl, hc0, hs0, hz0, hp0⟩ := errorString_of_trod Tryz.underlying27 rowErr Tryz.underlying211 Tryz.underlying227 rfl rfl Tryz.underlying9 (by kernel_rfl) (by kernel_rfl) hd0 ok0
  refine ⟨a0, by simpa using World.var?_cell hg0 hv0 0, ⟨s0, hc0, hs0⟩, ?_⟩
  have hm : MemPlace.cell a0.block a0.off ∈ MemPlace.row a0 1 := by simp [MemPlace.row]
  exact (hrows a0.block a0.off (by rw [hp0]; simp [MemPlace.row])).1
set_option maxRecDepth 100000 in
theorem errs_of {W : World} (h : laidMet Tryz.prog laidL W) : ∀ g, g ∈ errGs → ErrAt W g := by
  simp only [errGs, List.forall_mem_cons]
  exact ⟨err_of (n := "timbre/api.ErrLimit") (h.at 5 rfl) (by kernel_rfl) (by kernel_rfl), err_of (n := "timbre/api.ErrText") (h.at 8 rfl) (by kernel_rfl) (by kernel_rfl), err_of (n := "timbre/api.ErrUnknown") (h.at 18 rfl) (by kernel_rfl) (by kernel_rfl), err_of (n := "timbre/api.ErrMode") (h.at 19 rfl) (by kernel_rfl) (by kernel_rfl), err_of (n := "timbre/api.ErrShort") (h.at 3 rfl) (by kernel_rfl) (by kernel_rfl), err_of (n := "timbre/api.ErrVarint") (h.at 4 rfl) (by kernel_rfl) (by kernel_rfl), err_of (n := "timbre/api.ErrTail") (h.at 6 rfl) (by kernel_rfl) (by kernel_rfl), err_of (n := "timbre/api.ErrRange") (h.at 7 rfl) (by kernel_rfl) (by kernel_rfl), err_of (n := "timbre/api.ErrLength") (h.at 9 rfl) (by kernel_rfl) (by kernel_rfl), err_of (n := "timbre/api.ErrOrder") (h.at 10 rfl) (by kernel_rfl) (by kernel_rfl), err_of (n := "timbre/api.ErrProgram") (h.at 11 rfl) (by kernel_rfl) (by kernel_rfl), err_of (n := "timbre/api.ErrState") (h.at 12 rfl) (by kernel_rfl) (by kernel_rfl), err_of (n := "timbre/api.ErrRoot") (h.at 13 rfl) (by kernel_rfl) (by kernel_rfl), err_of (n := "timbre/api.ErrPerm") (h.at 14 rfl) (by kernel_rfl) (by kernel_rfl), err_of (n := "timbre/api.ErrNumber") (h.at 15 rfl) (by kernel_rfl) (by kernel_rfl), err_of (n := "timbre/api.ErrWorkers") (h.at 16 rfl) (by kernel_rfl) (by kernel_rfl), err_of (n := "timbre/api.ErrDone") (h.at 17 rfl) (by kernel_rfl) (by kernel_rfl), err_of (n := "timbre/api.ErrCommand") (h.at 20 rfl) (by kernel_rfl) (by kernel_rfl), err_of (n := "timbre/api.ErrExact") (h.at 21 rfl) (by kernel_rfl) (by kernel_rfl), fun _ h => absurd h (List.not_mem_nil)⟩
theorem errT_of {W : World} (h : laidMet Tryz.prog laidL W) (hgn : 23 ≤ W.heap.size) : ∃ E, ErrT W.heap.size E W := by
  have h0 : ∀ g, ∃ a : Addr, g ∈ errGs → W.cell? ⟨g, 0, none⟩ = some (.iface 211 (.pointer (some a))) ∧ (∃ s : ByteArray, W.cell? a = some (.string s) ∧ s.data.toList = errTx g) ∧ ∃ c t, W.heap[a.block]? = some (.cells c t (0, 0)) := by
    intro g
    by_cases hg : g ∈ errGs
    · obtain ⟨a, ha⟩ := errs_of h g hg
      exact ⟨a, fun _ => ha⟩
    · exact ⟨⟨0, 0, none⟩, fun hg' => absurd hg' hg⟩
  obtain ⟨E, hE⟩ := Classical.axiomOfChoice h0
  refine ⟨E, ⟨fun g hg => (hE g hg).1, fun g hg => ?_, hgn, fun g k hg hk e => ?_⟩⟩
  · obtain ⟨c, t, hc⟩ := (hE g hg).2.2
    exact ⟨blk_lt hc, c, t, hc⟩
  · obtain ⟨s, h1, h2⟩ := (hE g hg).2.1
    obtain ⟨s', h3, h4⟩ := (hE k hk).2.1
    rw [e, h3] at h1
    have hs : s' = s := by simpa using h1
    subst hs
    exact (by decide : ∀ g ∈ errGs, ∀ k ∈ errGs, errTx g = errTx k → g = k) g hg k hk (h2.symm.trans h4)
theorem gn_of {W : World} (h : laidMet Tryz.prog laidL W) : 23 ≤ W.heap.size := by
  obtain ⟨ps, ⟨g0, t0, cs0, f0, p0, q0, hg0, ht0, hv0, hd0, _, e0⟩, _, hrows⟩ := h.at 1 rfl
  have hg : Tryz.prog.globalNamed "math/bits.deBruijn64tab" = some 22 := by kernel_rfl
  obtain rfl := Option.some.inj (hg.symm.trans hg0)
  unfold World.var? at hv0
  rw [hg] at hv0
  simp only [Option.bind_some] at hv0
  split at hv0
  · rename_i hx
    have := blk_lt hx
    omega
  · cases hv0
theorem tab_of {W : World} (h : laidMet Tryz.prog laidL W) (hgn : 23 ≤ W.heap.size) : TabB W.heap.size W := by
  have hg : Tryz.prog.globalNamed "internal/strconv.uint64pow10" = some 20 := by kernel_rfl
  refine ⟨Lib.tabIs_of_head hg (by kernel_rfl) Tryz.underlying205 Tryz.underlying75 (by kernel_rfl) (by kernel_rfl) (h.at 2 (by kernel_rfl)), fun g e => ?_⟩
  obtain rfl := Option.some.inj (hg.symm.trans e)
  omega
section
variable {H : Type} {enc : TypeId × Value → H} {P : Program} {w : World} {base : Nat} {spare : Nat → Bool} {held : Bool}
theorem struct_cells {e : TypeId} {fs : Array Field} {fuel : Nat} {cs : List Value} {x : DataW H × List MemPlace} (he : P.underlying e = some (.struct fs))
    (hone : oneCellFields P fs = true) (hC : P.cellsOf e = fs.size) (h : DataW.trod enc P w base spare held fuel e cs = some x) :
    ∃ (ys : List (DataW H × List MemPlace)) (n : Nat), x.1 = .agg (ys.map (·.1)) ∧ cs.length = fs.size ∧ ∀ (j : Nat) (f : Field), fs[j]? = some f → ∃ (v : Value) (y : DataW H × List MemPlace), cs[j]? = some v ∧ ys[j]? = some y ∧ DataW.trod enc P w base spare held n f.type [v] = some y := by
  obtain ⟨ys, n', hn', hy, hlen, hyl, hf⟩ := DataW.trod_struct he h
  rw [hC] at hlen
  refine ⟨ys, n', by rw [hy], hlen, fun j f hj => ?_⟩
  obtain ⟨ho, hk⟩ := hone_of hone j f hj
  have hjl : j < fs.size := (Array.getElem?_eq_some_iff.1 hj).1
  have hv : cs[j]? = some (cs[j]'(by omega)) := List.getElem?_eq_getElem (by omega)
  have h1 := hf j f hj
  rw [ho, hk] at h1
  have hone' : (cs.drop j).take 1 = [cs[j]'(by omega)] := by
    rw [List.drop_eq_getElem_cons (by omega)]
    rfl
  rw [hone'] at h1
  have hys : ys[j]? = some (ys[j]'(by omega)) := List.getElem?_eq_getElem (by omega)
  exact ⟨_, _, hv, hys, h1.trans hys⟩
end
def stL : List (List UInt8 × Bool × Bool × Int × Bool) := [([], false, false, 0, false), ([103, 97, 116, 104, 101, 114], true, true, 0, false), ([115, 99, 97, 116, 116, 101, 114], true, true, 0, false), ([122, 101, 114, 111], false, false, 0, false), ([116, 119, 105, 115, 116], false, false, 16384, true), ([102, 108, 121], false, true, 5, false), ([100, 105, 114, 101, 99, 116], true, true, 64, false), ([99, 104, 105, 114, 112], false, false, 16384, false), ([102, 105, 108, 108], false, false, 16384, false), ([116, 105, 109, 101, 115], true, false, 0, false), ([99, 111, 110, 106], false, false, 0, false), ([111, 118, 101, 114], false, false, 16384, false)]
def stD : List (DataW Unit) := stL.map fun e => .agg [.lit (.string e.1), .lit (.bool e.2.1), .lit (.bool e.2.2.1), .lit (.int .i64 e.2.2.2.1), .lit (.bool e.2.2.2.2)]
def stK (i : Fin 12) : Bool := match stL[i.1]? with
  | some e => e.2.1 == kSrc i.1 && e.2.2.1 == kJmp i.1 && e.2.2.2.1 == kN i.1 && e.2.2.2.2 == kK i.1
  | none => false
theorem stK_spec {i : Nat} (hi : i < 12) (h : stK ⟨i, hi⟩ = true) : ∃ t, stD[i]? = some (.agg [.lit (.string t), .lit (.bool (kSrc i)), .lit (.bool (kJmp i)), .lit (.int .i64 (kN i)), .lit (.bool (kK i))]) := by
  unfold stK at h
  split at h
  · rename_i e he
    simp only [Bool.and_eq_true, beq_iff_eq] at h
    obtain ⟨⟨⟨h1, h2⟩, h3⟩, h4⟩ := h
    exact ⟨e.1, by rw [stD, List.getElem?_map, he, ← h1, ← h2, ← h3, ← h4]; rfl⟩
  · cases h
theorem add_glob (g k : Nat) : (⟨g, 0, none⟩ : Addr).add k = ⟨g, k, none⟩ := by
  by_cases hk : k = 0
  · subst hk; rfl
  · simp [Addr.add, hk]
theorem st_of {W : World} (h : laidMet Tryz.prog laidL W) : StT W := by
  obtain ⟨ps, ⟨g0, t0, cs0, f0, p0, q0, hg0, ht0, hv0, hd0, _, e0⟩, _, _⟩ := h.at 22 rfl
  obtain rfl := Option.some.inj ((show Tryz.prog.globalNamed "timbre/steps.table" = some 19 by kernel_rfl).symm.trans hg0)
  obtain rfl := Option.some.inj ((show (Tryz.prog.globals[19]?).map (·.type) = some 150 by kernel_rfl).symm.trans ht0)
  obtain ⟨xs, m1, rfl, hx1, hlen, hn12, hel⟩ := DataW.trod_array Tryz.underlying150 hd0
  have hxs := congrArg Prod.fst hx1
  have ck : Tryz.prog.cellsOf 149 = 5 := by kernel_rfl
  have c9 : Tryz.prog.cellsOf 9 = 1 := by kernel_rfl
  have c4 : Tryz.prog.cellsOf 4 = 1 := by kernel_rfl
  have c3 : Tryz.prog.cellsOf 3 = 1 := by kernel_rfl
  have key : ∀ (i : Nat) (t : List UInt8) (a b : Bool) (n : Int) (k : Bool), (xs.map (·.1))[i]? = some (.agg [.lit (.string t), .lit (.bool a), .lit (.bool b), .lit (.int .i64 n), .lit (.bool k)]) →
      ∃ s : ByteArray, CaR (· < 23) W ((⟨19, 0, none⟩ : Addr).add (i * 5)) [.string s, .bool a, .bool b, .int .i64 n, .bool k] := by
    intro i t a b n k hi
    rw [List.getElem?_map, Option.map_eq_some_iff] at hi
    obtain ⟨x, hx, hxd⟩ := hi
    have hi12 : i < 12 := by have := (List.getElem?_eq_some_iff.1 hx).1; omega
    have h1 := hel i hi12
    rw [hx, ck] at h1
    obtain ⟨ys, n', hy, hcl, hf⟩ := struct_cells Tryz.underlying149 (by kernel_rfl) (by kernel_rfl) h1
    obtain ⟨v0, y0, g0, k0, f0⟩ := hf 0 _ rfl
    obtain ⟨v1, y1, g1, k1, f1⟩ := hf 1 _ rfl
    obtain ⟨v2, y2, g2, k2, f2⟩ := hf 2 _ rfl
    obtain ⟨v3, y3, g3, k3, f3⟩ := hf 3 _ rfl
    obtain ⟨v4, y4, g4, k4, f4⟩ := hf 4 _ rfl
    obtain ⟨s, e0', e0'', _⟩ := DataW.trod_string Tryz.underlying9 f0
    obtain ⟨b1, e1', e1''⟩ := DataW.trod_bool Tryz.underlying4 f1
    obtain ⟨b2, e2', e2''⟩ := DataW.trod_bool Tryz.underlying4 f2
    obtain ⟨z3, e3', e3'', _⟩ := DataW.trod_int Tryz.underlying3 f3
    obtain ⟨b4, e4', e4''⟩ := DataW.trod_bool Tryz.underlying4 f4
    rw [hy] at hxd
    simp only [DataW.agg.injEq] at hxd
    subst e0'' e1'' e2'' e3'' e4''
    have q1 := congrArg (fun l => l[1]?) hxd; have q2 := congrArg (fun l => l[2]?) hxd; have q3 := congrArg (fun l => l[3]?) hxd; have q4 := congrArg (fun l => l[4]?) hxd
    simp only [List.getElem?_map, k1, k2, k3, k4, Option.map_some, List.getElem?_cons_succ, List.getElem?_cons_zero, Option.some.injEq, DataW.lit.injEq, Lit.bool.injEq, Lit.int.injEq, true_and] at q1 q2 q3 q4
    subst q1 q2 q3 q4
    simp only [List.cons.injEq, and_true] at e0' e1' e2' e3' e4'
    subst e0' e1' e2' e3' e4'
    have cell : ∀ j v, j < 5 → ((cs0.toList.drop (i * 5)).take 5)[j]? = some v → W.cell? (((⟨19, 0, none⟩ : Addr).add (i * 5)).add j) = some v := by
      intro j v hj5 hj
      rw [List.getElem?_take, if_pos hj5, List.getElem?_drop, Array.getElem?_toList] at hj
      have := World.var?_cell hg0 hv0 (i * 5 + j)
      rw [hj] at this
      rw [← this, Go.Deep.add_add, add_glob]
    refine ⟨s, fun j v hj => ?_, by rw [add_block]; decide⟩
    match j, hj with
    | 0, hj => obtain rfl := Option.some.inj hj; exact cell 0 _ (by decide) g0
    | 1, hj => obtain rfl := Option.some.inj hj; exact cell 1 _ (by decide) g1
    | 2, hj => obtain rfl := Option.some.inj hj; exact cell 2 _ (by decide) g2
    | 3, hj => obtain rfl := Option.some.inj hj; exact cell 3 _ (by decide) g3
    | 4, hj => obtain rfl := Option.some.inj hj; exact cell 4 _ (by decide) g4
    | j + 5, hj => simp at hj
  have hD : xs.map (·.1) = stD := by
    simp only [DataW.agg.injEq, Rows.laid_timbre_steps_table] at hxs
    exact hxs.symm
  rw [hD] at key
  have all : ∀ i, ∃ s : ByteArray, i < 12 → CaR (· < 23) W ((⟨19, 0, none⟩ : Addr).add (i * 5)) [.string s, .bool (kSrc i), .bool (kJmp i), .int .i64 (kN i), .bool (kK i)] := by
    intro i
    by_cases hi : i < 12
    · have h2 := (by decide : ∀ i : Fin 12, stK i = true) ⟨i, hi⟩
      obtain ⟨t, ht⟩ := stK_spec hi h2
      obtain ⟨s, hs⟩ := key i _ _ _ _ _ ht
      exact ⟨s, fun _ => hs⟩
    · exact ⟨⟨#[]⟩, fun h => absurd h hi⟩
  obtain ⟨nm, hnm⟩ := Classical.axiomOfChoice all
  exact ⟨nm, hnm⟩
theorem flatO_len : ∀ L : List Opn, (flatO L).length = L.length * 4
  | [] => rfl
  | t :: L => by
    show (t.cells ++ flatO L).length = _
    rw [List.length_append, flatO_len L, List.length_cons]
    show 4 + _ = _
    omega
theorem flatO_at : ∀ (L : List Opn) (p : Nat) (v : Value), (flatO L)[p]? = some v → ∃ i j s, p = i * 4 + j ∧ j < 4 ∧ L[i]? = some s ∧ s.cells[j]? = some v
  | [], _, _, h => by simp [flatO] at h
  | t :: L, p, v, h => by
    have e : flatO (t :: L) = t.cells ++ flatO L := rfl
    rw [e] at h
    have h7 : t.cells.length = 4 := rfl
    by_cases hp : p < 4
    · rw [List.getElem?_append_left (by omega)] at h
      exact ⟨0, p, t, by omega, hp, rfl, h⟩
    · rw [List.getElem?_append_right (by omega), h7] at h
      obtain ⟨i, j, s, h1, h2, h3, h4⟩ := flatO_at L _ v h
      exact ⟨i + 1, j, s, by omega, h2, h3, h4⟩
section
variable {H : Type} {enc : TypeId × Value → H} {P : Program} {w : World} {base : Nat} {spare : Nat → Bool} {held : Bool}
theorem open_slice_fields {t e : TypeId} {fs : Array Field} {fuel : Nat} {cs : List Value} {x : DataW H × List MemPlace} (ht : P.underlying t = some (.slice e)) (he : P.underlying e = some (.struct fs))
    (hone : oneCellFields P fs = true) (hC : P.cellsOf e = fs.size) (h : DataW.trod enc P w base spare held fuel t cs = some x) :
    (cs = [.slice none 0 0] ∧ x = (.nil, [])) ∨
    ∃ (a : Addr) (len cap : Nat), cs = [.slice (some a) len cap] ∧ len ≤ cap ∧ cap ≤ maxLen ∧
      ∀ i, i < len → ∀ (j : Nat) (f : Field), fs[j]? = some f → ∃ (v : Value) (y : DataW H × List MemPlace) (n : Nat), w.cell? (a.add (i * fs.size + j)) = some v ∧ DataW.trod enc P w base spare held n f.type [v] = some y := by
  rcases open_slice ht h with h0 | ⟨a, len, cap, m, n, D, Pl, hcs, hb, hl, hm, hmm, hx, hi⟩
  · exact .inl h0
  · refine .inr ⟨a, len, cap, hcs, hl, hm, fun i hil j f hj => ?_⟩
    have him : i < m := by rw [hmm]; split <;> omega
    obtain ⟨cs', hc, ht'⟩ := hi i him
    rw [hC] at hc
    obtain ⟨ys, n', hn', hy, hlen, hyl, hf⟩ := DataW.trod_struct he ht'
    obtain ⟨_, hcl, hat⟩ := World.cells?_some hc
    obtain ⟨ho, hk⟩ := hone_of hone j f hj
    have hjl : j < fs.size := (Array.getElem?_eq_some_iff.1 hj).1
    have hcell := hat j hjl
    have hv : cs'[j]? = some (cs'[j]'(by omega)) := List.getElem?_eq_getElem (by omega)
    have h1 := hf j f hj
    rw [ho, hk] at h1
    have hone' : (cs'.drop j).take 1 = [cs'[j]'(by omega)] := by
      rw [List.drop_eq_getElem_cons (by omega)]
      rfl
    rw [hone'] at h1
    have hys : ys[j]? = some (ys[j]'(by omega)) := List.getElem?_eq_getElem (by omega)
    refine ⟨_, _, n', ?_, h1.trans hys⟩
    rw [← Go.Deep.add_add, hcell, hv]
end
theorem strV_of (s : ByteArray) : strV s.data.toList = .string s := by
  unfold strV; congr
set_option maxRecDepth 100000 in
/-- An argument that is a slice of operations. -/
theorem open_ops {H : Type} {enc : TypeId × Value → H} {W : World} {base : Nat} {sp : Nat → Bool} {held : Bool} {v : Value} {d : DataW H} {p : List MemPlace} {b0 : Nat} (hv : Value.okWide Tryz.prog W .any b0 22 v) (h : DataW.Trod enc Tryz.prog W base sp held 22 v d p) :
    ∃ (A : Option Addr) (c : Nat) (SC : List Opn), v = .slice A SC.length c ∧ SlR (· < W.heap.size) W A SC.length 4 (flatO SC) ∧ SC.length ≤ 9223372036854775807 := by
  obtain ⟨A, l, c, rfl⟩ := okWide_slice Tryz.underlying22 hv
  obtain ⟨fuel, hf⟩ := h
  rcases open_slice_fields Tryz.underlying22 Tryz.underlying32 (by kernel_rfl) (by kernel_rfl) hf with ⟨h0, _⟩ | ⟨a, len, cap, h0, hl, hm, hi⟩
  · simp only [Value.cells, List.cons.injEq, Value.slice.injEq, and_true] at h0
    obtain ⟨rfl, rfl, rfl⟩ := h0
    exact ⟨none, 0, [], rfl, ⟨rfl, fun h => absurd h (by simp), fun _ h => (by cases h), fun _ h => (by cases h)⟩, by simp⟩
  · simp only [Value.cells, List.cons.injEq, Value.slice.injEq, and_true] at h0
    obtain ⟨rfl, rfl, rfl⟩ := h0
    have hblk : a.block < W.heap.size := by
      simp only [Value.okWide, Tryz.underlying22, Cell.okWide, Cell.ok] at hv
      obtain ⟨_, _, _, _, row, cells, hs, _⟩ := hv
      unfold World.shape? at hs
      split at hs
      · rename_i hx; exact blk_lt hx
      · cases hs
    have h1 : ∀ i, ∃ o : Opn, i < l → ∀ j v, o.cells[j]? = some v → W.cell? (a.add (i * 4 + j)) = some v := by
      intro i
      by_cases hil : i < l
      · obtain ⟨v0, y0, n0, c0, t0⟩ := hi i hil 0 _ rfl
        obtain ⟨v1, y1, n1, c1, t1⟩ := hi i hil 1 _ rfl
        obtain ⟨v2, y2, n2, c2, t2⟩ := hi i hil 2 _ rfl
        obtain ⟨v3, y3, n3, c3, t3⟩ := hi i hil 3 _ rfl
        obtain ⟨z0, e0, _⟩ := DataW.trod_int Tryz.underlying3 t0
        obtain ⟨s1, e1, _⟩ := DataW.trod_string Tryz.underlying9 t1
        obtain ⟨z2, e2, _⟩ := DataW.trod_int Tryz.underlying3 t2
        obtain ⟨z3, e3, _⟩ := DataW.trod_int Tryz.underlying3 t3
        simp only [List.cons.injEq, and_true] at e0 e1 e2 e3
        subst e0 e1 e2 e3
        refine ⟨⟨z0, s1.data.toList, z2, z3⟩, fun _ j v hj => ?_⟩
        simp only [Opn.cells, strV_of] at hj
        match j, hj with
        | 0, hj => obtain rfl := Option.some.inj hj; exact c0
        | 1, hj => obtain rfl := Option.some.inj hj; exact c1
        | 2, hj => obtain rfl := Option.some.inj hj; exact c2
        | 3, hj => obtain rfl := Option.some.inj hj; exact c3
        | j + 4, hj => simp at hj
      · exact ⟨⟨0, [], 0, 0⟩, fun h => absurd h hil⟩
    obtain ⟨F, hF⟩ := Classical.axiomOfChoice h1
    have hSl : ((List.range l).map F).length = l := by simp
    refine ⟨some a, c, (List.range l).map F, by rw [hSl], ⟨?_, fun _ => ⟨a, rfl⟩, fun ad had => ?_, fun ad had => ?_⟩, ?_⟩
    · exact flatO_len _
    · cases had
      intro p v hp
      obtain ⟨i, j, s, rfl, hj, hs, hv'⟩ := flatO_at _ p v hp
      have hil : i < l := by have := (List.getElem?_eq_some_iff.1 hs).1; omega
      rw [List.getElem?_map, List.getElem?_range hil] at hs
      obtain rfl := Option.some.inj hs
      exact hF i hil j v hv'
    · cases had; exact hblk
    · rw [hSl]; unfold maxLen at hm; omega



end Go.Tm
namespace Go.Tm
open Go.RowKit Go.Proofs
/-- A number's bytes. -/
def uintB (n : Nat) : List UInt8 := if 127 < n then UInt8.ofNat (n % 128 + 128) :: uintB (n / 128) else [UInt8.ofNat n]
termination_by n
decreasing_by omega
theorem uintB_big {n : Nat} (h : 127 < n) : uintB n = UInt8.ofNat (n % 128 + 128) :: uintB (n / 128) := by rw [uintB, if_pos h]
theorem uintB_small {n : Nat} (h : ¬ 127 < n) : uintB n = [UInt8.ofNat n] := by rw [uintB, if_neg h]
theorem uintB_len_aux : ∀ (k n : Nat), n < 128 ^ (k + 1) → (uintB n).length ≤ k + 1
  | 0, n, h => by rw [uintB_small (by omega)]; simp
  | k + 1, n, h => by
    by_cases hn : 127 < n
    · rw [uintB_big hn, List.length_cons]
      have := uintB_len_aux k (n / 128) (by rw [Nat.pow_succ] at h; omega)
      omega
    · rw [uintB_small hn]; simp
theorem uintB_len {n : Nat} (h : n ≤ 18446744073709551615) : (uintB n).length ≤ 10 := uintB_len_aux 9 n (Nat.lt_of_le_of_lt h (by decide))
theorem uintB_ne (n : Nat) : 0 < (uintB n).length := by
  by_cases h : 127 < n
  · rw [uintB_big h]; simp
  · rw [uintB_small h]; simp
theorem byte_add (o : List UInt8) {m : Nat} (h : m < 256) : Lib.byteCells o ++ flat [Value.int IntKind.u8 (m : Int)] = Lib.byteCells (o ++ [UInt8.ofNat m]) := by
  have : (UInt8.ofNat m).toNat = m := by rw [UInt8.toNat_ofNat']; omega
  simp [Lib.byteCells, flat, Value.cells, this]
theorem byte_last (o : List UInt8) {m : Nat} (h : m < 256) : Lib.byteCells o ++ flat [Value.int IntKind.u8 (IntKind.u8.wrap (m : Int))] = Lib.byteCells (o ++ [UInt8.ofNat m]) := by
  rw [show IntKind.u8.wrap (m : Int) = (m : Int) by rw [IntKind.wrap_u8]; omega]
  exact byte_add o h
theorem strCells_nm (x : List UInt8) : Lib.strCells ⟨x.toArray⟩ = Lib.byteCells x := by simp [Lib.strCells, Lib.byteCells]
theorem or128 : ∀ y : Fin 256, IntKind.u8.wrap ((BitVec.ofInt 8 (y.1 : Int) ||| BitVec.ofInt 8 128).toNat) = (y.1 % 128 + 128 : Nat) := by decide +kernel
section
variable {P : Program} {n : Fr} {k : K} {w : World} {d : Option Tmp} {ty : TypeId} {pos : String} {aft : Array Edge} {g : Option (Nat × Bool)} {t t' : TypeId} {x y : Operand} {a b : Int}
theorem Rn.or128 {m : Nat} (hx : ev k x = some (.int .u8 (IntKind.u8.wrap (m : Int)))) (hy : ev k y = some (.int .u8 128)) : Rn P n k w { dst := d, op := .binOp .or t x y t', type := ty, pos := pos, after := aft, guard := g } (.int .u8 ((m % 128 + 128 : Nat) : Int)) :=
  Rn.bin hx hy (fun x y => by
    have h1 : IntKind.u8.wrap (m : Int) = ((m % 256 : Nat) : Int) := by rw [IntKind.wrap_u8]; omega
    have h := Go.Tm.or128 ⟨m % 256, by omega⟩
    have h2 : m % 256 % 128 = m % 128 := by omega
    rw [h1]
    simp only [h2] at h
    simp only [eqGuard_or, binOp_or, Op.intBits]
    rw [← h]; rfl)
theorem Rn.shr64 {c : Int} {q : IntKind} (hx : ev k x = some (.int .u64 a)) (hy : ev k y = some (.int q c)) (h0 : 0 ≤ c) (h1 : c ≤ 64) : Rn P n k w { dst := d, op := .binOp .shr t x y t', type := ty, pos := pos, after := aft, guard := g } (.int .u64 (a / 2 ^ c.toNat)) :=
  Rn.bin hx hy (fun x y => by simp [eqGuard_shr, binOp_shr, shift_shr_u64 (h₀ := h0) (h₁ := h1)])
end

set_option maxRecDepth 100000 in
theorem inf5w32 : Inf Tryz.prog 5 (.int .u8 0) 1 1 := ⟨Tryz.t5, Tryz.type5, rfl, rfl, rfl⟩
set_option maxRecDepth 100000 in
theorem pack_Uint (q r : Nat) (bs : List UInt8) (x0 : Nat) (hx0 : x0 ≤ 18446744073709551615) (w : World) (wr : WrR w q r bs) (hl : bs.length ≤ 1000000000000) :
    Calls Tryz.prog 30 #[.pointer (some ⟨q, 0, none⟩), .int .u64 x0] w (Ret (fun v w' => ∃ r', v = .tuple #[] ∧ WrR w' q r' (bs ++ uintB x0) ∧ (r' = r ∨ w.heap.size < r') ∧ Ch (QR q r) w w')) := by
  obtain ⟨A, c, bk, row⟩ := id wr
  have lw := wr.lt; have lrow := row.lt
  have hul := uintB_len hx0
  refine calls_of_VC (args := [.pointer (some ⟨q, 0, none⟩), .int .u64 x0]) Tryz.func30 rfl Tryz.ntmps30 rfl ?_
  refine VC.seq ?_
  refine VC.block ?_
  refine VC.loopS (σ := Nat × List UInt8 × Nat × Option Addr × Nat) (fun (x, o, r2, A2, c2) => [(0, .pointer (some ⟨q, 0, none⟩)), (1, .int .u64 x)]) (fun (x, o, r2, A2, c2) w' => x ≤ 18446744073709551615 ∧ bs ++ uintB x0 = o ++ uintB x ∧ (r2 = r ∨ w.heap.size < r2) ∧ w.heap.size ≤ w'.heap.size ∧ Bk w' q #[.slice A2 o.length c2] 98 ∧ Ow w' r2 5 1 A2 o.length c2 (Lib.byteCells o) ∧ Ch (QR q r) w w') (fun (x, o, r2, A2, c2) => x) (x0, bs, r, A, c) ?_ ⟨rfl, rfl, trivial⟩ ?_
  · exact ⟨(by omega), rfl, (.inl rfl), (Nat.le_refl _), bk, row, (Ch.refl (QR q r) w)⟩
  rintro ⟨x, o, r2, A2, c2⟩ w1 ⟨hx, hu, hr2, hsz1, bk_1, row_1, CH_1⟩
  show VC _ _ _ _ [(0, .pointer (some ⟨q, 0, none⟩)), (1, .int .u64 x)] _
  have hpl := congrArg List.length hu; rw [List.length_append, List.length_append] at hpl
  refine VC.seq ?_
  refine VC.seq ?_
  refine VC.region ?_
  refine VO.mv (Rn.move rfl) rfl rfl rfl ?_
  refine VO.mv (Rn.gtr rfl rfl) rfl rfl rfl ?_
  refine VO.nil ?_
  refine VQ.then_code ?_
  refine VC.cond_if rfl (fun hc1 => ?_) (fun hc1 => ?_)
  · skip
    refine VC.skip ?_
    refine VQ.then_code ?_
    refine VC.seq ?_
    refine VC.block ?_
    refine VC.region ?_
    refine VO.mv (Rn.move rfl) rfl rfl rfl ?_
    refine VO.mv (Rn.move rfl) rfl rfl rfl ?_
    refine VO.mv (Rn.nilCheck rfl) rfl rfl rfl ?_
    refine VO.mv (Rn.field Tryz.underlying98 rfl Tryz.sizeOf46 rfl rfl rfl) rfl rfl rfl ?_
    refine VO.mv (Rn.load Tryz.isAgg46 rfl (bk_1.cell rfl)) rfl rfl rfl ?_
    refine VO.mv (Rn.move rfl) rfl rfl rfl ?_
    refine VO.mv (Rn.conv Tryz.underlying75 Tryz.underlying5 rfl) rfl rfl rfl ?_
    refine VO.mv (Rn.or128 rfl rfl) rfl rfl rfl ?_
    refine VO.wk (Wk.lit Tryz.underlying46 inf5w32 (by decide) rfl rfl (by rfl) (by decide) (by decide) (by rfl)) rfl rfl rfl ?_
    rintro _ w2 ⟨p2, rfl, N2⟩
    have c2 := N2.ch
    have e2 := N2.p; have z2 := N2.size
    have l16 := SlR.of_new (sz := 1) (l := 1) N2 rfl
    have l16o := Ow.of_new (sz := 1) (l := 1) N2 rfl (by decide)
    have row_2 := row_1.keep c2
    refine VO.wk (Wk.append (S := _) Tryz.underlying46 inf5w32 rfl (by decide) rfl rfl row_2 l16 (by rfl) (fun h => by simp at h) (by omega) (by simp only [maxLen]; omega)) rfl rfl rfl ?_
    rintro _ w3 ⟨r3, A3, k3, rfl, o3, c3, q3⟩
    have z3 := c3.size
    have y3 := o3.lt
    refine VO.mv (Rn.nilCheck rfl) rfl rfl rfl ?_
    refine VO.mv (Rn.field Tryz.underlying98 rfl Tryz.sizeOf46 rfl rfl rfl) rfl rfl rfl ?_
    have bk_2 := bk_1.keep c2
    have bk_3 := bk_2.to c3 (by first | exact id | omega)
    refine VO.wk0 (Wk.put Tryz.sizeOf46 rfl rfl rfl rfl bk_3 rfl) rfl rfl ?_
    intro _ w4 Z4
    have c4 := Z4.ch; have z4 := Z4.size
    have bk_4 := Bk.put Z4
    refine VO.nil ?_
    refine VQ.block_normal ?_
    refine VQ.then_code ?_
    refine VC.region ?_
    refine VO.mv (Rn.move rfl) rfl rfl rfl ?_
    refine VO.mv (Rn.shr64 rfl rfl (by omega) (by omega)) rfl rfl rfl ?_
    refine VO.mv (Rn.assign rfl) rfl rfl rfl ?_
    refine VO.nil ?_
    refine VQ.round (x / 128, o ++ [UInt8.ofNat (x % 128 + 128)], r3, A3, k3) (by (dsimp only; omega)) ?_ ⟨rfl, rfl, trivial⟩
    have row_4 := o3.to c4 (by first | exact fun _ _ _ _ => id | (intro q h1 h2 hx h3; omega))
    have CH_2 := CH_1.and c2
    have CH_3 : Ch (QR q r) w w3 := CH_2.then c3 (by intro q h1 h2; rcases h2 with h2 | h2 <;> first | exact h2 | (exfalso; omega) | omega)
    have CH_4 : Ch (QR q r) w w4 := CH_3.then c4 (by intro q h1 h2; rcases h2 with h2 | h2 <;> first | exact h2 | (exfalso; omega) | omega)
    exact ⟨(by omega), (by rw [hu, uintB_big (by omega)]; simp), (by omega), (by omega), (by show Bk _ _ #[.slice _ (o ++ [_]).length _] _; rw [List.length_append]; exact bk_4), ((row_4).to' (by simp) (byte_add o (by omega))), CH_4⟩
  · skip
    refine VC.exit ?_
    refine VQ.then_exit ?_
    refine VQ.then_exit ?_
    refine VQ.block_exit ?_
    refine VQ.then_code ?_
    refine VC.region ?_
    refine VO.mv (Rn.move rfl) rfl rfl rfl ?_
    refine VO.mv (Rn.move rfl) rfl rfl rfl ?_
    refine VO.mv (Rn.nilCheck rfl) rfl rfl rfl ?_
    refine VO.mv (Rn.field Tryz.underlying98 rfl Tryz.sizeOf46 rfl rfl rfl) rfl rfl rfl ?_
    refine VO.mv (Rn.load Tryz.isAgg46 rfl (bk_1.cell rfl)) rfl rfl rfl ?_
    refine VO.mv (Rn.move rfl) rfl rfl rfl ?_
    refine VO.mv (Rn.conv Tryz.underlying75 Tryz.underlying5 rfl) rfl rfl rfl ?_
    refine VO.wk (Wk.lit Tryz.underlying46 inf5w32 (by decide) rfl rfl (by rfl) (by decide) (by decide) (by rfl)) rfl rfl rfl ?_
    rintro _ w5 ⟨p5, rfl, N5⟩
    have c5 := N5.ch
    have e5 := N5.p; have z5 := N5.size
    have l27 := SlR.of_new (sz := 1) (l := 1) N5 rfl
    have l27o := Ow.of_new (sz := 1) (l := 1) N5 rfl (by decide)
    have row_5 := row_1.keep c5
    refine VO.wk (Wk.append (S := _) Tryz.underlying46 inf5w32 rfl (by decide) rfl rfl row_5 l27 (by rfl) (fun h => by simp at h) (by omega) (by simp only [maxLen]; omega)) rfl rfl rfl ?_
    rintro _ w6 ⟨r6, A6, k6, rfl, o6, c6, q6⟩
    have z6 := c6.size
    have y6 := o6.lt
    refine VO.mv (Rn.nilCheck rfl) rfl rfl rfl ?_
    refine VO.mv (Rn.field Tryz.underlying98 rfl Tryz.sizeOf46 rfl rfl rfl) rfl rfl rfl ?_
    have bk_5 := bk_1.keep c5
    have bk_6 := bk_5.to c6 (by first | exact id | omega)
    refine VO.wk0 (Wk.put Tryz.sizeOf46 rfl rfl rfl rfl bk_6 rfl) rfl rfl ?_
    intro _ w7 Z7
    have c7 := Z7.ch; have z7 := Z7.size
    have bk_7 := Bk.put Z7
    refine VO.nil ?_
    refine VQ.end0 rfl ?_
    refine Ret.mk ?_
    rw [uintB_small (n := x) (by omega)] at hu
    rw [hu]
    have row_7 := o6.to c7 (by first | exact fun _ _ _ _ => id | (intro q h1 h2 hx h3; omega))
    have CH_5 := CH_1.and c5
    have CH_6 : Ch (QR q r) w w6 := CH_5.then c6 (by intro q h1 h2; rcases h2 with h2 | h2 <;> first | exact h2 | (exfalso; omega) | omega)
    have CH_7 : Ch (QR q r) w w7 := CH_6.then c7 (by intro q h1 h2; rcases h2 with h2 | h2 <;> first | exact h2 | (exfalso; omega) | omega)
    exact ⟨_, rfl, ⟨A6, k6, (by show Bk _ _ #[.slice _ (o ++ [_]).length _] _; rw [List.length_append]; exact bk_7), (row_7).to' (by simp) (byte_last o (by omega))⟩, by omega, CH_7⟩

set_option maxRecDepth 100000 in
theorem pack_Text (q r : Nat) (bs x : List UInt8) (hx : x.length ≤ 1000000000000) (w : World) (wr : WrR w q r bs) (hl : bs.length ≤ 1000000000000) :
    Calls Tryz.prog 31 #[.pointer (some ⟨q, 0, none⟩), strV x] w (Ret (fun v w' => ∃ r', v = .tuple #[] ∧ WrR w' q r' (bs ++ uintB x.length ++ x) ∧ (r' = r ∨ w.heap.size < r') ∧ Ch (QR q r) w w')) := by
  have ls := wr.lt
  have hul := uintB_len (n := x.length) (by omega)
  have hxs : (⟨x.toArray⟩ : ByteArray).size = x.length := rfl
  refine calls_of_VC (args := [.pointer (some ⟨q, 0, none⟩), strV x]) Tryz.func31 rfl Tryz.ntmps31 rfl ?_
  refine VC.seq ?_
  refine VC.region ?_
  refine VO.mv (Rn.move rfl) rfl rfl rfl ?_
  refine VO.mv (Rn.move rfl) rfl rfl rfl ?_
  refine VO.mv (Rn.len_nm Tryz.underlying9 rfl) rfl rfl rfl ?_
  refine VO.mv (Rn.conv_in Tryz.underlying3 Tryz.underlying75 rfl (by rw [IntKind.wrap_u64]; omega)) rfl rfl rfl ?_
  refine VO.wk (Wk.call Tryz.call30 rfl (pack_Uint q r (bs) (x.length) (by omega) _ wr (by first | omega | (simp; done) | (simp; omega)))) rfl rfl rfl ?_
  rintro _ w1 ⟨rw1, rfl, wr1, yw1, c1⟩
  have lw1 := wr1.lt
  obtain ⟨A1, cc1, bk1, row1⟩ := id wr1
  have z1 := c1.size
  refine VO.nil ?_
  refine VQ.then_code ?_
  refine VC.region ?_
  refine VO.mv (Rn.move rfl) rfl rfl rfl ?_
  refine VO.mv (Rn.move rfl) rfl rfl rfl ?_
  refine VO.mv (Rn.nilCheck rfl) rfl rfl rfl ?_
  refine VO.mv (Rn.field Tryz.underlying98 rfl Tryz.sizeOf46 rfl rfl rfl) rfl rfl rfl ?_
  refine VO.mv (Rn.load Tryz.isAgg46 rfl (bk1.cell rfl)) rfl rfl rfl ?_
  refine VO.mv (Rn.move rfl) rfl rfl rfl ?_
  refine VO.wk (Wk.appendX Tryz.underlying46 Tryz.underlying9 inf5w32 rfl rfl row1 (by rw [List.length_append, hxs]; omega)) rfl rfl rfl ?_
  rintro _ w2 ⟨r2, A2, k2, rfl, o2, c2, q2⟩
  have z2 := c2.size
  have y2 := o2.lt
  refine VO.mv (Rn.nilCheck rfl) rfl rfl rfl ?_
  refine VO.mv (Rn.field Tryz.underlying98 rfl Tryz.sizeOf46 rfl rfl rfl) rfl rfl rfl ?_
  have bk_2 := bk1.to c2 (by first | exact id | omega)
  refine VO.wk0 (Wk.put Tryz.sizeOf46 rfl rfl rfl rfl bk_2 rfl) rfl rfl ?_
  intro _ w3 Z3
  have c3 := Z3.ch; have z3 := Z3.size
  have bk_3 := Bk.put Z3
  refine VO.nil ?_
  refine VQ.end0 rfl ?_
  refine Ret.mk ?_
  have row_3 := o2.to c3 (by first | exact fun _ _ _ _ => id | (intro q h1 h2 hx h3; omega))
  have yr := row_3.lt
  have CH_1 : Ch (QR q r) w w1 := (Ch.refl (QR q r) w).then c1 (by intro q h1 h2; rcases h2 with h2 | h2 <;> first | exact h2 | (exfalso; omega) | omega)
  have CH_2 : Ch (QR q r) w w2 := CH_1.then c2 (by intro q h1 h2; rcases h2 with h2 | h2 <;> first | exact h2 | (exfalso; omega) | omega)
  have CH_3 : Ch (QR q r) w w3 := CH_2.then c3 (by intro q h1 h2; rcases h2 with h2 | h2 <;> first | exact h2 | (exfalso; omega) | omega)
  exact ⟨_, rfl, ⟨A2, k2, (by show Bk _ _ #[.slice _ (bs ++ uintB x.length ++ x).length _] _; rw [List.length_append]; exact bk_3), (row_3).to' (by simp only [List.length_append]; omega) (by simp [strCells_nm, Lib.byteCells])⟩, by omega, CH_3⟩

end Go.Tm
