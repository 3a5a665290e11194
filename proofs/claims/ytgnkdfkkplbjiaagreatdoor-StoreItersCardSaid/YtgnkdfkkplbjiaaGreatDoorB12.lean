/- Lemmas of this claim, joined by program. Deferred unlocks of a mutex; maps: delete. Walks of functions: the store. Walks of functions: the store's calls. Walks of functions: errors' numbers. Walks of functions: the names, gone over. Conditions: each lemma names its own. -/
import Derived.Test.YtgnkdfkkplbjiaaGreatDoorB11
import Derived.Conc.MuLone
import Derived.Defers
import Derived.LaidEql
set_option linter.all false
namespace Go.Tm
open Go.RowKit Go.Conc.Locks
section
variable {P : Program} {n : Fr} {m : Nat} {k : K} {w : World} {fn : Func} {R : Ending → World → Prop} {Q : Exit → Act → World → Prop} {ops : Array Oper} {rest : List Oper}
theorem calls_of_VCD {n : Nat} {f : FuncId} {fn : Func} {c : Code} {args : List Value} {R : Ending → World → Prop} (hf : P.funcs[f]? = some fn) (hb : fn.body = some c) (hn : fn.ntmps = n)
    (hlen : Nat.ble args.length n = true) (h : VC (r := none) P ⟨n, []⟩ c (bodyPostD P fn R) (kargs args 0) w) : Calls P f args.toArray w R := by
  refine calls_of_wp_defers hf hb (wpIn_none.1 (h _ ?_))
  have hl : args.length ≤ n := Nat.le_of_ble_eq_true hlen
  refine ⟨rfl, by simp [hn]; omega, fun i v hi => ?_⟩
  obtain ⟨_, h2⟩ := kargs_known args 0 i v hi
  rw [Nat.sub_zero] at h2
  have hlt : i < args.length := (List.getElem?_eq_some_iff.1 h2).1
  rw [Array.getElem?_append_left (by simpa using hlt)]
  simpa using h2
theorem VQ.toD (h : VQ ⟨m, []⟩ (bodyPost P fn R) .ret k w) : VQ ⟨m, []⟩ (bodyPostD P fn R) .ret k w := by
  intro a ha
  obtain ⟨hd, hv⟩ := h a ha
  show Leaves _ _ _ _ a.defers _ _
  rw [hd]
  exact hv
theorem VQ.toDn (h : VQ ⟨m, []⟩ (bodyPost P fn R) .normal k w) : VQ ⟨m, []⟩ (bodyPostD P fn R) .normal k w := by
  intro a ha
  obtain ⟨hd, hv⟩ := h a ha
  show Leaves _ _ _ _ a.defers _ _
  rw [hd]
  exact hv
theorem VO.defer {f : FuncId} {xs : List Operand} {vs : List Value} {ts : Array TypeId} {ty : TypeId} {pos : String} {aft : Array Edge} (hx : evs k xs = some vs)
    (h : VO P ⟨n.sz, { target := .fn (.func f) #[], args := vs.toArray } :: n.ds⟩ ops Q rest k w) :
    VO P n ops Q ({ dst := none, op := .defer { callee := .value (.func f), args := xs.toArray, argTypes := ts }, type := ty, pos := pos, after := aft, guard := none } :: rest) k w := by
  intro a ha
  unfold wpList
  simp only [Region.wanted, if_true]
  left
  have he : (xs.map a.eval) = vs := ha.evals hx
  unfold Oper.wp
  have hr : (execOp a.eval { dst := none, op := .defer { callee := .value (.func f), args := xs.toArray, argTypes := ts }, type := ty, pos := pos, after := aft, guard := none }).run P w = .ok (.defer { target := .fn (.func f) #[], args := vs.toArray }) w := by
    simp [execOp, resolve, he, Act.eval, Deferred.ofValue]
  rw [hr, Oper.upon_defer]
  exact h _ ⟨by simp [Act.put, ha.defers], by simp [Act.put, ha.size], fun i v hi => by simpa [Act.put] using ha.known i v hi⟩
variable {L : MuLink}
/-- A lock is taken. -/
theorem mutex_lock (H : MuLib P L) {q o : Nat} {cs : Array Value} {t : TypeId} (hb : Bk w q cs t) (hc : cs[o]? = some (.int .i32 0)) : Calls P L.lock #[.pointer (some ⟨q, o, none⟩)] w (Ret fun v w' => v = .tuple #[] ∧ Sts w w' q (.cells (cs.setIfInBounds o (.int .i32 1)) t (0, 0))) := by
  refine (MuLone.lock_free H ⟨q, o, none⟩ w (hb.cell hc) hb.free).mono ?_
  rintro e w' ⟨rfl, rfl⟩
  exact ⟨_, rfl, rfl, Sts.of_cell rfl hb.blk⟩
theorem leaves_unlock (H : MuLib P L) {q o : Nat} {cs : Array Value} {t : TypeId} {tmps : Array Value} {ds : List Deferred} (hb : Bk w q cs t) (hc : cs[o]? = some (.int .i32 1))
    (h : ∀ w', Sts w w' q (.cells (cs.setIfInBounds o (.int .i32 0)) t (0, 0)) → Leaves P fn tmps R ds .returning w') : Leaves P fn tmps R ({ target := .fn (.func L.unlock) #[], args := #[.pointer (some ⟨q, o, none⟩)] } :: ds) .returning w := by
  refine leaves_cons (f := L.unlock) (args := #[.pointer (some ⟨q, o, none⟩)]) (by simp) ?_ ?_
  · have := MuLone.run_callFunc_enter (P := P) H.f_unlock (by kernel_rfl) rfl #[.pointer (some ⟨q, o, none⟩)] w
    simpa [invoke] using this
  · refine (MuLone.unlock_deferred H ⟨q, o, none⟩ .returning w (hb.cell hc) hb.free).mono ?_
    rintro e u w' ⟨rfl, rfl, rfl⟩
    exact h _ (Sts.of_cell rfl hb.blk)
theorem VQ.unlockD (H : MuLib P L) {q o : Nat} {cs : Array Value} {t : TypeId} {ds : List Deferred} (hb : Bk w q cs t) (hc : cs[o]? = some (.int .i32 1))
    (h : ∀ w', Sts w w' q (.cells (cs.setIfInBounds o (.int .i32 0)) t (0, 0)) → VQ ⟨m, ds⟩ (bodyPostD P fn R) .ret k w') : VQ ⟨m, { target := .fn (.func L.unlock) #[], args := #[.pointer (some ⟨q, o, none⟩)] } :: ds⟩ (bodyPostD P fn R) .ret k w := by
  intro a ha
  show Leaves _ _ _ _ a.defers _ _
  rw [ha.defers]
  refine leaves_unlock H hb hc fun w' hs => ?_
  exact h w' hs { a with defers := ds } ⟨rfl, ha.size, ha.known⟩
theorem VQ.unlockDn (H : MuLib P L) {q o : Nat} {cs : Array Value} {t : TypeId} {ds : List Deferred} (hb : Bk w q cs t) (hc : cs[o]? = some (.int .i32 1))
    (h : ∀ w', Sts w w' q (.cells (cs.setIfInBounds o (.int .i32 0)) t (0, 0)) → VQ ⟨m, ds⟩ (bodyPostD P fn R) .normal k w') : VQ ⟨m, { target := .fn (.func L.unlock) #[], args := #[.pointer (some ⟨q, o, none⟩)] } :: ds⟩ (bodyPostD P fn R) .normal k w := by
  intro a ha
  show Leaves _ _ _ _ a.defers _ _
  rw [ha.defers]
  refine leaves_unlock H hb hc fun w' hs => ?_
  exact h w' hs { a with defers := ds } ⟨rfl, ha.size, ha.known⟩
end
section
variable {κ : Type} [BEq κ] [LawfulBEq κ] {P : Program} {n : Fr} {k : K} {w : World} {d : Option Tmp} {ty : TypeId} {pos : String} {aft : Array Edge} {g : Option (Nat × Bool)} {mk : κ → Value} {t kt et : TypeId} {x y z : Operand} {b : Nat} {m : List (κ × Value)} {key : κ}
def mdel : List (κ × Value) → κ → List (κ × Value)
  | [], _ => []
  | x :: t, k => if k == x.1 then t else x :: mdel t k
theorem mdel_none : ∀ {m : List (κ × Value)}, mfind m key = none → mdel m key = m
  | [], _ => rfl
  | x :: t, h => by
    simp only [mfind, List.find?_cons] at h
    cases hx : key == x.1 with
    | true => rw [hx] at h; simp at h
    | false =>
      rw [hx] at h
      simp only [mdel, hx, Bool.false_eq_true, if_false]
      rw [mdel_none h]
theorem erase_eq {mk : κ → Value} {kind : TypeDesc} (hs : ∀ a b, Instr.sameNow kind (mk a) (mk b) = some (a == b)) (k : κ) : ∀ (es : List MapEntry) (m : List (κ × Value)) (i j : Nat) (v : Value), es.map (fun e => (e.key, e.val)) = m.map (fun x => (mk x.1, x.2)) →
    Instr.findNow kind (mk k) es i = some (some (i + j, v)) → ((es.eraseIdx j).map fun e => (e.key, e.val)) = (mdel m k).map (fun x => (mk x.1, x.2))
  | [], m, i, j, v, h, hf => by simp [Instr.findNow] at hf
  | e :: es, m, i, j, v, h, hf => by
    cases m with
    | nil => simp at h
    | cons x t =>
      simp only [List.map_cons, List.cons.injEq, Prod.mk.injEq] at h
      obtain ⟨⟨hk, hv⟩, ht⟩ := h
      simp only [Instr.findNow, hk, hs] at hf
      cases hx : k == x.1 with
      | true =>
        rw [hx] at hf
        simp at hf
        have : j = 0 := by omega
        subst this
        simp [mdel, hx, ht]
      | false =>
        rw [hx] at hf
        simp only at hf
        cases j with
        | zero =>
          exfalso
          have hge : ∀ (es : List MapEntry) (i j : Nat) (v : Value), Instr.findNow kind (mk k) es i = some (some (j, v)) → i ≤ j := by
            intro es
            induction es with
            | nil => intro i j v h; simp [Instr.findNow] at h
            | cons e es ih =>
              intro i j v h
              simp only [Instr.findNow] at h
              split at h
              · simp at h; omega
              · have := ih _ _ _ h; omega
              · cases h
          have := hge _ _ _ _ hf
          omega
        | succ j =>
          have := erase_eq hs k es t (i + 1) j v ht (by rw [hf]; congr 3; omega)
          simp only [List.eraseIdx_cons_succ, List.map_cons, mdel, hx, Bool.false_eq_true, if_false]
          rw [this, hk, hv]
theorem Wk.mapDel {ts : TypeId} (ht : P.underlying t = some (.map kt et)) (hk : KeyK P kt mk) (hx : ev k x = some (.map (some b))) (hy : ev k y = some (mk key)) (h : MpG mk w b m) :
    Wk P n k w { dst := none, op := .call { callee := .builtin .delete, args := #[x, y], argTypes := #[t, ts] }, type := ty, pos := pos, after := aft, guard := g } (fun _ w' => Ch (Is b) w w' ∧ w'.heap.size = w.heap.size ∧ MpG mk w' b (mdel m key)) := by
  obtain ⟨kind, h1, h2, h3, h4⟩ := hk
  obtain ⟨es, cl, h5, h6⟩ := h
  have hlt := blk_lt h5
  have hch : ∀ o : Obj, Ch (Is b) w { w with heap := w.heap.setIfInBounds b o } := fun o => ⟨rfl, rfl, rfl, by simp, fun q x hq hx => by
    simp only [Array.getElem?_setIfInBounds]
    rw [if_neg (fun e => hq e.symm)]
    exact hx⟩
  rcases findNow_eq h2 key es.toList m 0 h6 with ⟨f1, f4⟩ | ⟨j, v', e', f1, f2, f3, f4, f5⟩
  · refine Wk.of_run fun a ha => ⟨.tuple #[], _, ?_, hch (.map es cl), by simp, ⟨es, cl, by simp [hlt], by rw [mdel_none f1]; exact h6⟩⟩
    simp [execOp, resolve, invoke, builtin, ha.eval hx, ha.eval hy, Builtin.delete_, run_underlying ht, getMap h5, h3, run_findKey kind h1 f4, setMap _ h5]
  · refine Wk.of_run fun a ha => ⟨.tuple #[], _, ?_, hch (.map (es.eraseIdxIfInBounds (0 + j)) cl), by simp, ⟨es.eraseIdxIfInBounds (0 + j), cl, by simp [hlt], ?_⟩⟩
    · simp [execOp, resolve, invoke, builtin, ha.eval hx, ha.eval hy, Builtin.delete_, run_underlying ht, getMap h5, h3, run_findKey kind h1 f4, setMap _ h5]
    · have := erase_eq h2 key es.toList m 0 j v' h6 f4
      rw [← this, Nat.zero_add]
      simp [Array.toList_eraseIdxIfInBounds]
end
end Go.Tm
namespace Go.Tm
open Go.RowKit Go.Proofs Go.Conc.Locks
set_option maxRecDepth 100000 in
abbrev muLink : Go.Conc.Locks.MuLink := { lock := 23, unlock := 24, ilock := 41, iunlock := 42, lockSlow := 55, unlockSlow := 58, disable := 51, enable := 53, acquire := 54, relMerge := 56, cas32 := 52, add32 := 57, tMutex := 60, tIMutex := 58, tPMutex := 94, tPIMutex := 110, tPI32 := 112, tUP := 114, tNoCopy := 55, tU32 := 56 }
theorem muLib : Go.Conc.Locks.MuLib Tryz.prog muLink :=
  ⟨Tryz.func23, Tryz.func24, Tryz.func41, Tryz.func42, Tryz.func51, Tryz.func53, Tryz.func54, Tryz.func56, Tryz.func52, Tryz.func57, Tryz.underlying58, Tryz.runUnderlying58, Tryz.sizeOf58, Tryz.isAgg58, Tryz.zeroValue58, Tryz.underlying60, Tryz.runUnderlying60, Tryz.sizeOf60, Tryz.isAgg60, Tryz.zeroValue60, Tryz.underlying94, Tryz.runUnderlying94, Tryz.sizeOf94, Tryz.isAgg94, Tryz.zeroValue94, Tryz.underlying110, Tryz.runUnderlying110, Tryz.sizeOf110, Tryz.isAgg110, Tryz.zeroValue110, Tryz.underlying112, Tryz.runUnderlying112, Tryz.sizeOf112, Tryz.isAgg112, Tryz.zeroValue112, Tryz.underlying114, Tryz.runUnderlying114, Tryz.sizeOf114, Tryz.isAgg114, Tryz.zeroValue114, Tryz.underlying55, Tryz.runUnderlying55, Tryz.sizeOf55, Tryz.isAgg55, Tryz.zeroValue55, Tryz.underlying21, Tryz.runUnderlying21, Tryz.sizeOf21, Tryz.isAgg21, Tryz.zeroValue21, by kernel_rfl⟩
abbrev errGs : List Nat := [0, 1, 2, 3, 4, 5, 6, 7, 8, 9, 10, 11, 12, 13, 14, 15, 16, 17, 18]
abbrev errV (E : Nat → Addr) (g : Nat) : Value := .iface 211 (.pointer (some (E g)))
/-- The errors stand, below B; no two are one. -/
structure ErrT (B : Nat) (E : Nat → Addr) (w : World) : Prop where
  get : ∀ g, g ∈ errGs → w.cell? ⟨g, 0, none⟩ = some (errV E g)
  blk : ∀ g, g ∈ errGs → (E g).block < B ∧ ∃ cs t, w.heap[(E g).block]? = some (.cells cs t (0, 0))
  gn : 23 ≤ B
  inj : ∀ g h, g ∈ errGs → h ∈ errGs → E g = E h → g = h
theorem ErrT.to {B : Nat} {E : Nat → Addr} {D : Nat → Prop} {w w' : World} (h : ErrT B E w) (c : Ch D w w') (hd : ∀ q, q < w.heap.size → q < B → isC w q → ¬ D q) : ErrT B E w' :=
  ⟨fun g hg => by
    have h0 := h.get g hg
    have hlt : g < 23 := (by decide : ∀ g ∈ errGs, g < 23) g hg
    exact c.cell (hd g (World.block_lt_of_cell? w _ h0) (Nat.lt_of_lt_of_le hlt h.gn) (cell_cells h0)) h0,
   fun g hg => by
    obtain ⟨h1, cs, t, h2⟩ := h.blk g hg
    exact ⟨h1, cs, t, c.old _ _ (hd _ (blk_lt h2) h1 ⟨_, _, _, h2⟩) h2⟩, h.gn, h.inj⟩
theorem ErrT.keep {B : Nat} {E : Nat → Addr} {w w' : World} (h : ErrT B E w) (c : Ch No w w') : ErrT B E w' := h.to c fun _ _ _ _ => id
abbrev QS (q mb r : Nat) : Nat → Prop := fun y => y = q ∨ y = mb ∨ r = y + 1
abbrev stoV (lk : Int) (most : Int) (mb : Nat) (A : Option Addr) (l c : Nat) : Array Value := #[.int .i32 lk, .int .u32 0, .int .i64 most, .map (some mb), .slice A l c]
/-- A store in memory: the names, the one used last first; the map. -/
structure StR (w : World) (q mb r : Nat) (lk most : Int) (L : List (List UInt8)) (m : List (List UInt8 × Value)) : Prop where
  ex : ∃ A c, Bk w q (stoV lk most mb A L.length c) 62 ∧ Ow w r 9 1 A L.length c (L.map strV) ∧ MpG strV w mb m
theorem StR.to {D : Nat → Prop} {w w' : World} {q mb r : Nat} {lk most : Int} {L : List (List UInt8)} {m : List (List UInt8 × Value)} (h : StR w q mb r lk most L m) (c : Ch D w w') (hd : ∀ y, y < w.heap.size → QS q mb r y → y = y → ¬ D y) : StR w' q mb r lk most L m := by
  obtain ⟨A, k, h1, h2, h3⟩ := h
  exact ⟨A, k, h1.to c (hd q h1.lt (.inl rfl) rfl), h2.to c (fun y h4 h5 _ => hd y h4 (.inr (.inr h5)) rfl), h3.to c (hd mb h3.lt (.inr (.inl rfl)) rfl)⟩
theorem StR.keep {w w' : World} {q mb r : Nat} {lk most : Int} {L : List (List UInt8)} {m : List (List UInt8 × Value)} (h : StR w q mb r lk most L m) (c : Ch No w w') : StR w' q mb r lk most L m := h.to c fun _ _ _ _ => id
theorem StR.lt {w : World} {q mb r : Nat} {lk most : Int} {L : List (List UInt8)} {m : List (List UInt8 × Value)} (h : StR w q mb r lk most L m) : q < w.heap.size ∧ mb < w.heap.size ∧ r ≤ w.heap.size ∧ r ≠ q + 1 ∧ r ≠ mb + 1 ∧ mb ≠ q := by
  obtain ⟨A, k, h1, h2, h3⟩ := h
  have hm : mb ≠ q := fun e => by
    obtain ⟨es, cl, h4, _⟩ := h3
    subst e
    rw [h1.blk] at h4
    cases h4
  refine ⟨h1.lt, h3.lt, h2.lt, fun e => ?_, fun e => ?_, hm⟩
  · rcases h2.2 with ⟨_, _, _, h⟩ | ⟨g, cur, _, h4, h5, _⟩
    · omega
    · have : g = q := by omega
      subst this
      rw [h1.blk] at h5
      injection h5 with h5
      injection h5 with _ h6
      exact absurd h6 (by decide)
  · rcases h2.2 with ⟨_, _, _, h⟩ | ⟨g, cur, _, h4, h5, _⟩
    · omega
    · have : g = mb := by omega
      subst this
      obtain ⟨es, cl, h6, _⟩ := h3
      rw [h6] at h5
      cases h5
theorem strs_one (L : List (List UInt8)) : ∀ v ∈ L.map strV, v.oneCell' = true := fun v hv => by
  obtain ⟨x, _, rfl⟩ := List.mem_map.1 hv
  rfl
theorem without_len (x : List UInt8) (L : List (List UInt8)) : (without x L).length ≤ L.length := List.length_filter_le _ _

set_option maxRecDepth 100000 in
theorem inf9w23 : Inf Tryz.prog 9 (.string ⟨#[]⟩) 1 16 := ⟨Tryz.t9, Tryz.type9, rfl, rfl, rfl⟩
theorem bld62_1_2w23 {v1 v2 : Value} (h : [v1, v2].all Value.oneCell' = true) (w : World) : (Instr.build 62 ([(1, v1), (2, v2)] : List (Nat × Value)).toArray).run Tryz.prog w = .ok (.agg #[.int .i32 0, .int .u32 0, v1, v2, .slice none 0 0]) w := by
  simp only [List.all_cons, Bool.and_eq_true, List.all_nil, and_true] at h
  have hv1 := oneCell_cells (v := v1) (by simp_all)
  have hv2 := oneCell_cells (v := v2) (by simp_all)
  have h1 := fill_set (fun i => ([(0, 2), (2, 1), (3, 1), (4, 1)] : List (Nat × Nat))[i]?) [(1, v1), (2, v2)] [.int .i32 0, .int .u32 0, .int .i64 0, .map none, .slice none 0 0] (by simp [okF, agg_cells, hv1, hv2, Nat.beq, Nat.ble])
  simp [setF, agg_cells, hv1, hv2] at h1
  simp [Instr.build, Tryz.runUnderlying62, Tryz.zeroValue62, Tryz.sizeOf3, Tryz.sizeOf30, Tryz.sizeOf53, Tryz.sizeOf60, agg_cells, h1]
set_option maxRecDepth 100000 in
theorem isName (x : List UInt8) (w : World) :
    Calls Tryz.prog 22 #[strV x] w (Ret (fun v w' => v = .bool (decide (1 ≤ x.length ∧ x.length ≤ 64)) ∧ w = w')) := by
  refine calls_of_VC (args := [strV x]) Tryz.func22 rfl Tryz.ntmps22 rfl ?_
  refine VC.seq ?_
  refine VC.region ?_
  refine VO.mv (Rn.assign rfl) rfl rfl rfl ?_
  refine VO.nil ?_
  refine VQ.then_code ?_
  refine VC.seq ?_
  refine VC.region ?_
  refine VO.mv (Rn.move rfl) rfl rfl rfl ?_
  refine VO.mv (Rn.len_nm Tryz.underlying9 rfl) rfl rfl rfl ?_
  refine VO.mv (Rn.geq rfl rfl) rfl rfl rfl ?_
  refine VO.mv (Rn.move rfl) rfl rfl rfl ?_
  refine VO.andJoin (b := _) 4 6 10 rfl (fun hc1 Jhc1 => by
      try simp only [Bool.and_eq_true, Bool.or_eq_true, Bool.not_eq_true', Bool.not_eq_false', Bool.and_eq_false_iff, Bool.or_eq_false_iff, decide_eq_true_eq, decide_eq_false_iff_not] at hc1
      refine VO.mv (Rn.move rfl) rfl rfl rfl ?_
      refine VO.mv (Rn.len_nm Tryz.underlying9 rfl) rfl rfl rfl ?_
      refine VO.mv (Rn.leq rfl rfl) rfl rfl rfl ?_
      refine VO.mv (Rn.pick_true rfl rfl) rfl rfl rfl ?_
      exact (VO.fg rfl (VO.fg rfl (VO.fg rfl Jhc1)))) (fun hc1 Jhc1 => by
      refine VO.skip rfl rfl rfl ?_
      refine VO.skip rfl rfl rfl ?_
      refine VO.skip rfl rfl rfl ?_
      refine VO.mv (Rn.pick_false rfl rfl) rfl rfl rfl ?_
      exact (VO.fg rfl (VO.fg rfl (VO.fg rfl Jhc1)))) ?_
  refine VO.mv (Rn.assign rfl) rfl rfl rfl ?_
  refine VO.nil ?_
  refine VQ.then_code ?_
  refine VC.ret ?_
  refine VQ.ret1 rfl rfl ?_
  refine Ret.mk ?_
  refine ⟨congrArg _ ?_, rfl⟩
  rw [Bool.eq_iff_iff]; simp <;> omega

set_option maxRecDepth 100000 in
theorem store_New (E : Nat → Addr) (most : Int) (h1 : 1 ≤ most) (h2 : most ≤ 64) (w : World) :
    Calls Tryz.prog 6 #[.int .i64 most] w (Ret (fun v w' => ∃ q mb, v = .tuple #[.pointer (some ⟨q, 0, none⟩), .nilIface] ∧ StR w' q mb 0 0 most [] [] ∧ w.heap.size ≤ mb ∧ mb < q ∧ Ch No w w')) := by
  refine calls_of_VC (args := [.int .i64 most]) Tryz.func6 rfl Tryz.ntmps6 rfl ?_
  refine VC.seq ?_
  refine VC.region ?_
  refine VO.mv (Rn.assign rfl) rfl rfl rfl ?_
  refine VO.mv (Rn.assign rfl) rfl rfl rfl ?_
  refine VO.nil ?_
  refine VQ.then_code ?_
  refine VC.seq ?_
  refine VC.seq ?_
  refine VC.region ?_
  refine VO.mv (Rn.move rfl) rfl rfl rfl ?_
  refine VO.mv (Rn.lss rfl rfl) rfl rfl rfl ?_
  refine VO.mv (Rn.move rfl) rfl rfl rfl ?_
  refine VO.orJoin (b := _) 3 6 9 rfl (fun hc1 Jhc1 => by
      refine VO.skip rfl rfl rfl ?_
      refine VO.skip rfl rfl rfl ?_
      refine VO.mv (Rn.pick_true rfl rfl) rfl rfl rfl ?_
      exact (VO.fg rfl (VO.fg rfl Jhc1))) (fun hc1 Jhc1 => by
      try simp only [Bool.and_eq_true, Bool.or_eq_true, Bool.not_eq_true', Bool.not_eq_false', Bool.and_eq_false_iff, Bool.or_eq_false_iff, decide_eq_true_eq, decide_eq_false_iff_not] at hc1
      refine VO.mv (Rn.move rfl) rfl rfl rfl ?_
      refine VO.mv (Rn.gtr rfl rfl) rfl rfl rfl ?_
      refine VO.mv (Rn.pick_false rfl rfl) rfl rfl rfl ?_
      exact (VO.fg rfl (VO.fg rfl Jhc1))) ?_
  refine VO.nil ?_
  refine VQ.then_code ?_
  refine VC.cond rfl (fun hc2 => ?_) (fun hc2 => ?_)
  · skip
    try simp only [Bool.and_eq_true, Bool.or_eq_true, Bool.not_eq_true', Bool.not_eq_false', Bool.and_eq_false_iff, Bool.or_eq_false_iff, decide_eq_true_eq, decide_eq_false_iff_not] at hc2
    exact absurd hc2 (by simp; omega)
  · skip
    try simp only [Bool.and_eq_true, Bool.or_eq_true, Bool.not_eq_true', Bool.not_eq_false', Bool.and_eq_false_iff, Bool.or_eq_false_iff, decide_eq_true_eq, decide_eq_false_iff_not] at hc2
    refine VC.skip ?_
    refine VQ.then_code ?_
    refine VC.seq ?_
    refine VC.region ?_
    refine VO.mv (Rn.move rfl) rfl rfl rfl ?_
    refine VO.wk (Wk.makeMap) rfl rfl rfl ?_
    rintro _ w1 ⟨p1, rfl, N1⟩
    have c1 := N1.ch
    have e1 := N1.p; have z1 := N1.size
    have m12 := MpG.new (mk := strV) N1
    refine VO.mv (Rn.build rfl (bld62_1_2w23 rfl)) rfl rfl rfl ?_
    refine VO.wk (Wk.box rfl) rfl rfl rfl ?_
    rintro _ w2 ⟨p2, rfl, N2⟩
    have c2 := N2.ch
    have e2 := N2.p; have z2 := N2.size
    have b14 := Bk.new N2
    refine VO.mv (Rn.assign rfl) rfl rfl rfl ?_
    refine VO.mv (Rn.assign rfl) rfl rfl rfl ?_
    refine VO.nil ?_
    refine VQ.then_code ?_
    refine VC.ret ?_
    refine VQ.ret2 rfl rfl rfl ?_
    refine Ret.mk ?_
    have m12_2 := m12.keep c2
    have CH_2 := (Ch.refl (No) w).and (c1.trans c2)
    exact ⟨_, _, rfl, ⟨none, 0, b14, Ow.nil _ _ _, m12_2⟩, by omega, by omega, CH_2⟩

set_option maxRecDepth 100000 in
theorem st_without (q mb r : Nat) (lk most : Int) (L : List (List UInt8)) (m : List (List UInt8 × Value)) (x : List UInt8) (w : World) (sr : StR w q mb r lk most L m) (hL : L.length ≤ 1000000)  :
    Calls Tryz.prog 26 #[.pointer (some ⟨q, 0, none⟩), strV x] w (Ret (fun v w' => v = .tuple #[] ∧ StR w' q mb r lk most (without x L) m ∧ Ch (QS q mb r) w w')) := by
  obtain ⟨A, c, bq, row, mp⟩ := id sr
  have ls := sr.lt; have lrow := row.lt
  refine calls_of_VC (args := [.pointer (some ⟨q, 0, none⟩), strV x]) Tryz.func26 rfl Tryz.ntmps26 rfl ?_
  refine VC.seq ?_
  refine VC.region ?_
  refine VO.wk (Wk.box rfl) rfl rfl rfl ?_
  rintro _ w1 ⟨p1, rfl, N1⟩
  have c1 := N1.ch
  have e1 := N1.p; have z1 := N1.size
  have b3 := Bk.new N1
  refine VO.nil ?_
  refine VQ.then_code ?_
  refine VC.region ?_
  refine VO.mv (Rn.move rfl) rfl rfl rfl ?_
  refine VO.mv (Rn.move rfl) rfl rfl rfl ?_
  refine VO.mv (Rn.nilCheck rfl) rfl rfl rfl ?_
  refine VO.mv (Rn.field Tryz.underlying62 rfl Tryz.sizeOf30 rfl rfl rfl) rfl rfl rfl ?_
  have bq_1 := bq.keep c1
  refine VO.mv (Rn.load Tryz.isAgg30 rfl (bq_1.cell rfl)) rfl rfl rfl ?_
  refine VO.mv (Rn.func rfl rfl) rfl rfl rfl ?_
  have row_1 := row.keep c1
  refine VO.wk (Wk.call Tryz.call44 rfl (delete_func L _ _ _ _ x _ row_1 b3 (by omega) (by omega))) rfl rfl rfl ?_
  rintro _ w2 ⟨rfl, row2, c2⟩
  have z2 := c2.size
  refine VO.mv (Rn.nilCheck rfl) rfl rfl rfl ?_
  refine VO.mv (Rn.field Tryz.underlying62 rfl Tryz.sizeOf30 rfl rfl rfl) rfl rfl rfl ?_
  have bq_2 := bq_1.to c2 (by first | exact id | omega)
  refine VO.wk0 (Wk.put Tryz.sizeOf30 rfl rfl rfl rfl bq_2 rfl) rfl rfl ?_
  intro _ w3 Z3
  have c3 := Z3.ch; have z3 := Z3.size
  have bq_3 := Bk.put Z3
  refine VO.nil ?_
  refine VQ.end0 rfl ?_
  refine Ret.mk ?_
  have row_3 := row2.to c3 (by first | exact fun _ _ _ _ => id | (intro q h1 h2 hx h3; omega))
  have mp_1 := mp.keep c1
  have mp_2 := mp_1.to c2 (by first | exact id | omega)
  have mp_3 := mp_2.to c3 (by first | exact id | omega)
  have CH_1 := (Ch.refl (QS q mb r) w).and c1
  have CH_2 : Ch (QS q mb r) w w2 := CH_1.then c2 (by intro q h1 h2; rcases h2 with h2 | h2 <;> first | exact h2 | (exfalso; omega) | omega)
  have CH_3 : Ch (QS q mb r) w w3 := CH_2.then c3 (by intro q h1 h2; rcases h2 with h2 | h2 <;> first | exact h2 | (exfalso; omega) | omega)
  exact ⟨rfl, ⟨A, c, bq_3, row_3, mp_3⟩, CH_3⟩

set_option maxRecDepth 100000 in
theorem st_used (q mb r : Nat) (lk most : Int) (L : List (List UInt8)) (m : List (List UInt8 × Value)) (x : List UInt8) (w : World) (sr : StR w q mb r lk most L m) (hL : L.length ≤ 1000000)  :
    Calls Tryz.prog 25 #[.pointer (some ⟨q, 0, none⟩), strV x] w (Ret (fun v w' => ∃ r', v = .tuple #[] ∧ StR w' q mb r' lk most (x :: without x L) m ∧ (r' = r ∨ w.heap.size < r') ∧ Ch (QS q mb r) w w')) := by
  have ls := sr.lt; have hwl := without_len x L
  refine calls_of_VC (args := [.pointer (some ⟨q, 0, none⟩), strV x]) Tryz.func25 rfl Tryz.ntmps25 rfl ?_
  refine VC.seq ?_
  refine VC.region ?_
  refine VO.mv (Rn.move rfl) rfl rfl rfl ?_
  refine VO.mv (Rn.move rfl) rfl rfl rfl ?_
  refine VO.wk (Wk.call Tryz.call26 rfl (st_without _ _ _ _ _ _ _ _ _ sr (by omega))) rfl rfl rfl ?_
  rintro _ w1 ⟨rfl, sr1, c1⟩
  have ls1 := sr1.lt
  have z1 := c1.size
  refine VO.nil ?_
  refine VQ.then_code ?_
  obtain ⟨A, c, bq, row, mp⟩ := id sr1
  refine VC.region ?_
  refine VO.mv (Rn.move rfl) rfl rfl rfl ?_
  refine VO.mv (Rn.move rfl) rfl rfl rfl ?_
  refine VO.mv (Rn.nilCheck rfl) rfl rfl rfl ?_
  refine VO.mv (Rn.field Tryz.underlying62 rfl Tryz.sizeOf30 rfl rfl rfl) rfl rfl rfl ?_
  refine VO.mv (Rn.load Tryz.isAgg30 rfl (bq.cell rfl)) rfl rfl rfl ?_
  refine VO.mv (Rn.move rfl) rfl rfl rfl ?_
  refine VO.wk (Wk.lit Tryz.underlying30 inf9w23 (by decide) rfl rfl (by rfl) (by decide) (by decide) (by rfl)) rfl rfl rfl ?_
  rintro _ w2 ⟨p2, rfl, N2⟩
  have c2 := N2.ch
  have e2 := N2.p; have z2 := N2.size
  have l13 := SlR.of_new (sz := 1) (l := 1) N2 rfl
  have l13o := Ow.of_new (sz := 1) (l := 1) N2 rfl (by decide)
  have row_2 := row.keep c2
  refine VO.wk (Wk.call Tryz.call43 rfl (insert_front _ _ _ _ _ _ _ _ _ row_2 l13o (by have := l13o.lt; omega) (strs_one _) rfl (by omega))) rfl rfl rfl ?_
  rintro _ w3 ⟨r3, A3, k3, rfl, row3, c3, y3⟩
  have lr3 := row3.lt
  have z3 := c3.size
  refine VO.mv (Rn.nilCheck rfl) rfl rfl rfl ?_
  refine VO.mv (Rn.field Tryz.underlying62 rfl Tryz.sizeOf30 rfl rfl rfl) rfl rfl rfl ?_
  have bq_2 := bq.keep c2
  have bq_3 := bq_2.to c3 (by first | exact id | omega)
  refine VO.wk0 (Wk.put Tryz.sizeOf30 rfl rfl rfl rfl bq_3 rfl) rfl rfl ?_
  intro _ w4 Z4
  have c4 := Z4.ch; have z4 := Z4.size
  have bq_4 := Bk.put Z4
  refine VO.nil ?_
  refine VQ.end0 rfl ?_
  refine Ret.mk ?_
  have row_4 := row3.to c4 (by first | exact fun _ _ _ _ => id | (intro q h1 h2 hx h3; omega))
  have mp_2 := mp.keep c2
  have mp_3 := mp_2.to c3 (by first | exact id | omega)
  have mp_4 := mp_3.to c4 (by first | exact id | omega)
  have CH_1 : Ch (QS q mb r) w w1 := (Ch.refl (QS q mb r) w).then c1 (by intro q h1 h2; rcases h2 with h2 | h2 <;> first | exact h2 | (exfalso; omega) | omega)
  have CH_2 := CH_1.and c2
  have CH_3 : Ch (QS q mb r) w w3 := CH_2.then c3 (by intro q h1 h2; rcases h2 with h2 | h2 <;> first | exact h2 | (exfalso; omega) | omega)
  have CH_4 : Ch (QS q mb r) w w4 := CH_3.then c4 (by intro q h1 h2; rcases h2 with h2 | h2 <;> first | exact h2 | (exfalso; omega) | omega)
  exact ⟨r3, rfl, ⟨A3, k3, bq_4, row_4, mp_4⟩, by omega, CH_4⟩

end Go.Tm
namespace Go.Tm
open Go.RowKit Go.Proofs Go.Conc.Locks
def keepL (mo : Nat) (x : List UInt8) (L : List (List UInt8)) : List (List UInt8) := match (x :: without x L)[mo]? with
  | some y => without y (x :: without x L)
  | none => x :: without x L
def keepM (mo : Nat) (x : List UInt8) (v : Value) (L : List (List UInt8)) (m : List (List UInt8 × Value)) : List (List UInt8 × Value) := match (x :: without x L)[mo]? with
  | some y => mdel (mset1 m x v) y
  | none => mset1 m x v
theorem clone_names (A : Option Addr) (r l c : Nat) (L : List (List UInt8)) (w : World) (hl : l = L.length) (row : Ow w r 9 1 A l c (L.map strV)) (hL : l ≤ 1000000) :
    Calls Tryz.prog 27 #[.slice A l c] w (Ret fun v w' => ∃ r' A' c', v = .slice A' l c' ∧ Ow w' r' 9 1 A' l c' (L.map strV) ∧ Ch No w w' ∧ (r' = 0 ∨ w.heap.size < r')) := by
  have key : ∀ b, A = some ⟨b, 0, none⟩ → Calls Tryz.prog 27 #[.slice A l c] w (Ret fun v w' => ∃ r' A' c', v = .slice A' l c' ∧ Ow w' r' 9 1 A' l c' (L.map strV) ∧ Ch No w w' ∧ (r' = 0 ∨ w.heap.size < r')) := by
    rintro b rfl
    refine (Tryz.slices_Clone_string b 0 l c (L.map fun x => ⟨x.toArray⟩) w (by simp; omega) (by omega) (fun j hj => ?_)).mono ?_
    · have h := row.sl.cells ⟨b, 0, none⟩ rfl j (strV (L[j]'(by simpa using hj))) (by simp [show j < L.length by simpa using hj])
      rw [Addr.add_lit, Nat.zero_add] at h
      rw [Nat.zero_add, h]
      simp [show j < L.length by simpa using hj]
    · rintro e w' ⟨v', rfl, ho, _, hb⟩
      obtain ⟨r', A', c', rfl, ho', hr'⟩ := Ow.of_owns ho
      refine ⟨_, rfl, r', A', c', rfl, ?_, Ch.of_below hb, hr'⟩
      have e : (List.take l (L.map fun x => (⟨x.toArray⟩ : ByteArray))).map Value.string = L.map strV := by rw [List.take_of_length_le (by simp; omega), List.map_map]; rfl
      rw [e] at ho'
      exact ho'
  rcases row.2 with ⟨rfl, rfl, rfl, rfl⟩ | ⟨g, cur, rfl, rfl, _⟩
  · refine (Tryz.slices_Clone_string_nil 0 0 w).mono ?_
    rintro e w' ⟨rfl, rfl⟩
    exact ⟨_, rfl, 0, none, 0, rfl, row, Ch.refl _ _, .inl rfl⟩
  · exact key g rfl


set_option maxHeartbeats 1000000 in
set_option maxRecDepth 100000 in
theorem st_Keep (E : Nat → Addr) (p : Nat) (mo : Nat) (q mb r : Nat) (L : List (List UInt8)) (m : List (List UInt8 × Value)) (x : List UInt8) (w : World) (sr : StR w q mb r 0 mo L m) (hL : L.length ≤ 100000) (hx : 1 ≤ x.length ∧ x.length ≤ 64) :
    Calls Tryz.prog 8 #[.pointer (some ⟨q, 0, none⟩), strV x, .pointer (some ⟨p, 0, none⟩)] w (Ret (fun v w' => ∃ r', v = .nilIface ∧ StR w' q mb r' 0 mo (keepL mo x L) (keepM mo x (.pointer (some ⟨p, 0, none⟩)) L m) ∧ (r' = r ∨ w.heap.size < r') ∧ Ch (QS q mb r) w w')) := by
  obtain ⟨A, c, bq, row, mp⟩ := id sr
  have ls := sr.lt; have lrow := row.lt; have hwl := without_len x L
  refine calls_of_VCD (args := [.pointer (some ⟨q, 0, none⟩), strV x, .pointer (some ⟨p, 0, none⟩)]) Tryz.func8 rfl Tryz.ntmps8 rfl ?_
  refine VC.seq ?_
  refine VC.region ?_
  refine VO.mv (Rn.assign rfl) rfl rfl rfl ?_
  refine VO.nil ?_
  refine VQ.then_code ?_
  refine VC.seq ?_
  refine VC.seq ?_
  refine VC.region ?_
  refine VO.mv (Rn.move rfl) rfl rfl rfl ?_
  refine VO.wk (Wk.call Tryz.call22 rfl (isName _ _)) rfl rfl rfl ?_
  rintro _ _ ⟨rfl, rfl⟩
  refine VO.mv (Rn.not_if rfl) rfl rfl rfl ?_
  refine VO.nil ?_
  refine VQ.then_code ?_
  refine VC.cond_if rfl (fun hc1 => ?_) (fun hc1 => ?_)
  · skip
    omega
  · skip
    refine VC.skip ?_
    refine VQ.then_code ?_
    refine VC.seq ?_
    refine VC.region ?_
    refine VO.mv (Rn.move rfl) rfl rfl rfl ?_
    refine VO.mv (Rn.nilCheck rfl) rfl rfl rfl ?_
    refine VO.mv (Rn.field Tryz.underlying62 rfl Tryz.sizeOf60 rfl rfl rfl) rfl rfl rfl ?_
    refine VO.wk (Wk.call Tryz.call23 rfl (mutex_lock muLib bq rfl)) rfl rfl rfl ?_
    rintro _ w1 ⟨rfl, Z1⟩
    have c1 := Z1.ch
    have bq_1 := Bk.put Z1
    have z1 := c1.size
    refine VO.nil ?_
    refine VQ.then_code ?_
    refine VC.seq ?_
    refine VC.region ?_
    refine VO.mv (Rn.move rfl) rfl rfl rfl ?_
    refine VO.mv (Rn.nilCheck rfl) rfl rfl rfl ?_
    refine VO.mv (Rn.field Tryz.underlying62 rfl Tryz.sizeOf60 rfl rfl rfl) rfl rfl rfl ?_
    refine VO.defer rfl ?_
    refine VO.nil ?_
    refine VQ.then_code ?_
    refine VC.seq ?_
    refine VC.region ?_
    refine VO.mv (Rn.move rfl) rfl rfl rfl ?_
    refine VO.mv (Rn.nilCheck rfl) rfl rfl rfl ?_
    refine VO.mv (Rn.field Tryz.underlying62 rfl Tryz.sizeOf53 rfl rfl rfl) rfl rfl rfl ?_
    refine VO.mv (Rn.load Tryz.isAgg53 rfl (bq_1.cell rfl)) rfl rfl rfl ?_
    refine VO.mv (Rn.move rfl) rfl rfl rfl ?_
    refine VO.mv (Rn.move rfl) rfl rfl rfl ?_
    have mp_1 := mp.to c1 (by first | exact id | omega)
    refine VO.wk0 (Wk.mapPut Tryz.underlying53 (KeyK.str Tryz.underlying9) rfl rfl rfl mp_1) rfl rfl ?_
    rintro _ w2 ⟨c2, z2, mp_2⟩
    have z2 := c2.size
    refine VO.nil ?_
    refine VQ.then_code ?_
    refine VC.seq ?_
    have bq_2 := bq_1.to c2 (by first | exact id | omega)
    have row_1 := row.to c1 (by first | exact fun _ _ _ _ => id | (intro q h1 h2 hx h3; omega))
    have row_2 := row_1.to c2 (by first | exact fun _ _ _ _ => id | (intro q h1 h2 hx h3; omega))
    have sr6 : StR w2 q mb r 1 mo L _ := ⟨_, _, bq_2, row_2, mp_2⟩
    refine VC.region ?_
    refine VO.mv (Rn.move rfl) rfl rfl rfl ?_
    refine VO.mv (Rn.move rfl) rfl rfl rfl ?_
    refine VO.wk (Wk.call Tryz.call25 rfl (st_used _ _ _ _ _ _ _ _ _ sr6 (by omega))) rfl rfl rfl ?_
    rintro _ w3 ⟨r3, rfl, sr3, y3, c3⟩
    have ls3 := sr3.lt
    have z3 := c3.size
    refine VO.nil ?_
    refine VQ.then_code ?_
    refine VC.seq ?_
    refine VC.seq ?_
    obtain ⟨A7, c7x, bq7, row7, mp7⟩ := id sr3
    refine VC.draws 10 [(0, true), (1, true), (2, true), (3, true), (4, true), (5, true), (6, true), (7, true), (8, true), (9, true)] (fun w1 w' => Ch (No) w1 w') mixed (by kernel_rfl) (fun _ _ => Ch.refl _ _) ?_
    intro w4 D4
    have c4 := Ch.of_drew D4; have z4 := c4.size
    have bq_4 := bq7.keep c4
    have row_4 := row7.keep c4
    have mp_4 := mp7.keep c4
    refine VH.mv (fun w' hS => Rn.move rfl) rfl rfl rfl rfl ?_
    refine VH.mv (fun w' hS => Rn.nilCheck rfl) rfl rfl rfl rfl ?_
    refine VH.mv (fun w' hS => Rn.field Tryz.underlying62 rfl Tryz.sizeOf30 rfl rfl rfl) rfl rfl rfl rfl ?_
    refine VH.mv (fun w' hS => Rn.load Tryz.isAgg30 rfl ((bq_4.keep hS).cell rfl)) rfl rfl rfl rfl ?_
    refine VH.mv (fun w' hS => Rn.len Tryz.underlying30 rfl) rfl rfl rfl rfl ?_
    refine VH.mv (fun w' hS => Rn.move rfl) rfl rfl rfl rfl ?_
    refine VH.mv (fun w' hS => Rn.nilCheck rfl) rfl rfl rfl rfl ?_
    refine VH.mv (fun w' hS => Rn.field Tryz.underlying62 rfl Tryz.sizeOf3 rfl rfl rfl) rfl rfl rfl rfl ?_
    refine VH.mv (fun w' hS => Rn.load Tryz.isAgg3 rfl ((bq_4.keep hS).cell rfl)) rfl rfl rfl rfl ?_
    refine VH.mv (fun w' hS => Rn.gtr rfl rfl) rfl rfl rfl rfl ?_
    refine VH.done ?_
    refine VO.nil ?_
    refine VQ.noPanic ?_
    refine VQ.then_code ?_
    refine VC.cond_if rfl (fun hc2 => ?_) (fun hc2 => ?_)
    · skip
      obtain ⟨y, hy⟩ : ∃ y, (x :: without x L)[mo]? = some y := ⟨_, List.getElem?_eq_getElem (by omega)⟩
      refine VC.seq ?_
      refine VC.draws 10 [(0, true), (1, true), (2, true), (3, true), (4, true), (5, true), (6, true), (7, true), (8, true), (9, true)] (fun w1 w' => Ch (No) w1 w') mixed (by kernel_rfl) (fun _ _ => Ch.refl _ _) ?_
      intro w5 D5
      have c5 := Ch.of_drew D5; have z5 := c5.size
      have bq_5 := bq_4.keep c5
      have row_5 := row_4.keep c5
      have mp_5 := mp_4.keep c5
      refine VH.mv (fun w' hS => Rn.move rfl) rfl rfl rfl rfl ?_
      refine VH.mv (fun w' hS => Rn.nilCheck rfl) rfl rfl rfl rfl ?_
      refine VH.mv (fun w' hS => Rn.field Tryz.underlying62 rfl Tryz.sizeOf30 rfl rfl rfl) rfl rfl rfl rfl ?_
      refine VH.mv (fun w' hS => Rn.load Tryz.isAgg30 rfl ((bq_5.keep hS).cell rfl)) rfl rfl rfl rfl ?_
      refine VH.mv (fun w' hS => Rn.move rfl) rfl rfl rfl rfl ?_
      refine VH.mv (fun w' hS => Rn.nilCheck rfl) rfl rfl rfl rfl ?_
      refine VH.mv (fun w' hS => Rn.field Tryz.underlying62 rfl Tryz.sizeOf3 rfl rfl rfl) rfl rfl rfl rfl ?_
      refine VH.mv (fun w' hS => Rn.load Tryz.isAgg3 rfl ((bq_5.keep hS).cell rfl)) rfl rfl rfl rfl ?_
      refine VH.mv (fun w' hS => Rn.indexS Tryz.underlying30 Tryz.sizeOf9 rfl rfl (row_5.sl.ne (by omega)) (by omega) (by omega)) rfl rfl rfl rfl ?_
      refine VH.mv (fun w' hS => Rn.load Tryz.isAgg9 rfl ((row_5.keep hS).sl.one (by omega) (by rw [List.getElem?_map, show (x :: without x L)[((mo : Int)).toNat]? = some y from hy]; rfl))) rfl rfl rfl rfl ?_
      refine VH.done ?_
      refine VO.mv (Rn.assign rfl) rfl rfl rfl ?_
      refine VO.nil ?_
      refine VQ.noPanic ?_
      refine VQ.then_code ?_
      refine VC.seq ?_
      refine VC.region ?_
      refine VO.mv (Rn.move rfl) rfl rfl rfl ?_
      refine VO.mv (Rn.nilCheck rfl) rfl rfl rfl ?_
      refine VO.mv (Rn.field Tryz.underlying62 rfl Tryz.sizeOf53 rfl rfl rfl) rfl rfl rfl ?_
      refine VO.mv (Rn.load Tryz.isAgg53 rfl (bq_5.cell rfl)) rfl rfl rfl ?_
      refine VO.mv (Rn.move rfl) rfl rfl rfl ?_
      refine VO.wk0 (Wk.mapDel Tryz.underlying53 (KeyK.str Tryz.underlying9) rfl rfl mp_5) rfl rfl ?_
      rintro _ w6 ⟨c6, z6, mp_6⟩
      have z6 := c6.size
      refine VO.nil ?_
      refine VQ.then_code ?_
      have bq_6 := bq_5.to c6 (by first | exact id | omega)
      have row_6 := row_5.to c6 (by first | exact fun _ _ _ _ => id | (intro q h1 h2 hx h3; omega))
      have sr10 : StR w6 q mb r3 1 mo (x :: without x L) _ := ⟨_, _, bq_6, row_6, mp_6⟩
      refine VC.region ?_
      refine VO.mv (Rn.move rfl) rfl rfl rfl ?_
      refine VO.mv (Rn.move rfl) rfl rfl rfl ?_
      refine VO.wk (Wk.call Tryz.call26 rfl (st_without _ _ _ _ _ _ _ _ _ sr10 (by simp only [List.length_cons]; omega))) rfl rfl rfl ?_
      rintro _ w7 ⟨rfl, sr7, c7⟩
      have ls7 := sr7.lt
      have z7 := c7.size
      refine VO.nil ?_
      refine VQ.then_code ?_
      refine VC.seq ?_
      obtain ⟨A11, c11x, bq11, row11, mp11⟩ := id sr7
      refine VC.region ?_
      refine VO.mv (Rn.assign rfl) rfl rfl rfl ?_
      refine VO.nil ?_
      refine VQ.then_code ?_
      refine VC.ret ?_
      refine VQ.unlockD muLib bq11 rfl ?_
      intro w8 Z8
      have c8 := Z8.ch; have z8 := Z8.size
      have bq_8 := Bk.put Z8
      refine VQ.toD ?_
      refine VQ.ret1 rfl rfl ?_
      refine Ret.mk ?_
      have row_8 := row11.to c8 (by first | exact fun _ _ _ _ => id | (intro q h1 h2 hx h3; omega))
      have mp_8 := mp11.to c8 (by first | exact id | omega)
      have CH_1 : Ch (QS q mb r) w w1 := (Ch.refl (QS q mb r) w).then c1 (by intro q h1 h2; rcases h2 with h2 | h2 <;> first | exact h2 | (exfalso; omega) | omega)
      have CH_2 : Ch (QS q mb r) w w2 := CH_1.then c2 (by intro q h1 h2; rcases h2 with h2 | h2 <;> first | exact h2 | (exfalso; omega) | omega)
      have CH_3 : Ch (QS q mb r) w w3 := CH_2.then c3 (by intro q h1 h2; rcases h2 with h2 | h2 <;> first | exact h2 | (exfalso; omega) | omega)
      have CH_5 := CH_3.and (c4.trans c5)
      have CH_6 : Ch (QS q mb r) w w6 := CH_5.then c6 (by intro q h1 h2; rcases h2 with h2 | h2 <;> first | exact h2 | (exfalso; omega) | omega)
      have CH_7 : Ch (QS q mb r) w w7 := CH_6.then c7 (by intro q h1 h2; rcases h2 with h2 | h2 <;> first | exact h2 | (exfalso; omega) | omega)
      have CH_8 : Ch (QS q mb r) w w8 := CH_7.then c8 (by intro q h1 h2; rcases h2 with h2 | h2 <;> first | exact h2 | (exfalso; omega) | omega)
      exact ⟨_, rfl, by unfold keepL keepM; rw [hy]; exact ⟨_, _, bq_8, row_8, mp_8⟩, by omega, CH_8⟩
    · skip
      have hy : (x :: without x L)[mo]? = none := List.getElem?_eq_none (by omega)
      refine VC.skip ?_
      refine VQ.then_code ?_
      refine VC.seq ?_
      have sr_4 := sr3.keep c4
      obtain ⟨A11, c11x, bq11, row11, mp11⟩ := id sr_4
      refine VC.region ?_
      refine VO.mv (Rn.assign rfl) rfl rfl rfl ?_
      refine VO.nil ?_
      refine VQ.then_code ?_
      refine VC.ret ?_
      refine VQ.unlockD muLib bq11 rfl ?_
      intro w9 Z9
      have c9 := Z9.ch; have z9 := Z9.size
      have bq_9 := Bk.put Z9
      refine VQ.toD ?_
      refine VQ.ret1 rfl rfl ?_
      refine Ret.mk ?_
      have row_9 := row11.to c9 (by first | exact fun _ _ _ _ => id | (intro q h1 h2 hx h3; omega))
      have mp_9 := mp11.to c9 (by first | exact id | omega)
      have CH_1 : Ch (QS q mb r) w w1 := (Ch.refl (QS q mb r) w).then c1 (by intro q h1 h2; rcases h2 with h2 | h2 <;> first | exact h2 | (exfalso; omega) | omega)
      have CH_2 : Ch (QS q mb r) w w2 := CH_1.then c2 (by intro q h1 h2; rcases h2 with h2 | h2 <;> first | exact h2 | (exfalso; omega) | omega)
      have CH_3 : Ch (QS q mb r) w w3 := CH_2.then c3 (by intro q h1 h2; rcases h2 with h2 | h2 <;> first | exact h2 | (exfalso; omega) | omega)
      have CH_4 := CH_3.and c4
      have CH_9 : Ch (QS q mb r) w w9 := CH_4.then c9 (by intro q h1 h2; rcases h2 with h2 | h2 <;> first | exact h2 | (exfalso; omega) | omega)
      exact ⟨_, rfl, by unfold keepL keepM; rw [hy]; exact ⟨_, _, bq_9, row_9, mp_9⟩, by omega, CH_9⟩

set_option maxRecDepth 100000 in
theorem st_Keep_bad (E : Nat → Addr) (pv : Value) (mo : Nat) (q mb r : Nat) (L : List (List UInt8)) (m : List (List UInt8 × Value)) (x : List UInt8) (w : World) (sr : StR w q mb r 0 mo L m) (hL : L.length ≤ 100000) (B : Nat) (er : ErrT B E w) (hx : ¬ (1 ≤ x.length ∧ x.length ≤ 64)) :
    Calls Tryz.prog 8 #[.pointer (some ⟨q, 0, none⟩), strV x, pv] w (Ret (fun v w' => v = errV E 1 ∧ w = w')) := by
  obtain ⟨A, c, bq, row, mp⟩ := id sr
  have ls := sr.lt; have lrow := row.lt; have hwl := without_len x L
  refine calls_of_VCD (args := [.pointer (some ⟨q, 0, none⟩), strV x, pv]) Tryz.func8 rfl Tryz.ntmps8 rfl ?_
  refine VC.seq ?_
  refine VC.region ?_
  refine VO.mv (Rn.assign rfl) rfl rfl rfl ?_
  refine VO.nil ?_
  refine VQ.then_code ?_
  refine VC.seq ?_
  refine VC.seq ?_
  refine VC.region ?_
  refine VO.mv (Rn.move rfl) rfl rfl rfl ?_
  refine VO.wk (Wk.call Tryz.call22 rfl (isName _ _)) rfl rfl rfl ?_
  rintro _ _ ⟨rfl, rfl⟩
  refine VO.mv (Rn.not_if rfl) rfl rfl rfl ?_
  refine VO.nil ?_
  refine VQ.then_code ?_
  refine VC.cond_if rfl (fun hc1 => ?_) (fun hc1 => ?_)
  · skip
    refine VC.seq ?_
    refine VC.region ?_
    refine VO.mv (Rn.load Tryz.isAgg27 rfl (er.get 1 (by decide))) rfl rfl rfl ?_
    refine VO.mv (Rn.assign rfl) rfl rfl rfl ?_
    refine VO.nil ?_
    refine VQ.then_code ?_
    refine VC.ret ?_
    refine VQ.then_ret ?_
    refine VQ.toD ?_
    refine VQ.ret1 rfl rfl ?_
    refine Ret.mk ?_
    exact ⟨rfl, rfl⟩
  · skip
    omega

set_option maxRecDepth 100000 in
theorem st_Get (pv : Value) (mo : Nat) (q mb r : Nat) (L : List (List UInt8)) (m : List (List UInt8 × Value)) (x : List UInt8) (w : World) (sr : StR w q mb r 0 mo L m) (hL : L.length ≤ 100000) (hm : mfind m x = some pv) :
    Calls Tryz.prog 9 #[.pointer (some ⟨q, 0, none⟩), strV x] w (Ret (fun v w' => ∃ r', v = .tuple #[pv, .nilIface] ∧ StR w' q mb r' 0 mo (x :: without x L) m ∧ (r' = r ∨ w.heap.size < r') ∧ Ch (QS q mb r) w w')) := by
  obtain ⟨A, c, bq, row, mp⟩ := id sr
  have ls := sr.lt; have lrow := row.lt; have hwl := without_len x L
  refine calls_of_VCD (args := [.pointer (some ⟨q, 0, none⟩), strV x]) Tryz.func9 rfl Tryz.ntmps9 rfl ?_
  refine VC.seq ?_
  refine VC.region ?_
  refine VO.mv (Rn.assign rfl) rfl rfl rfl ?_
  refine VO.mv (Rn.assign rfl) rfl rfl rfl ?_
  refine VO.nil ?_
  refine VQ.then_code ?_
  refine VC.seq ?_
  refine VC.region ?_
  refine VO.mv (Rn.move rfl) rfl rfl rfl ?_
  refine VO.mv (Rn.nilCheck rfl) rfl rfl rfl ?_
  refine VO.mv (Rn.field Tryz.underlying62 rfl Tryz.sizeOf60 rfl rfl rfl) rfl rfl rfl ?_
  refine VO.wk (Wk.call Tryz.call23 rfl (mutex_lock muLib bq rfl)) rfl rfl rfl ?_
  rintro _ w1 ⟨rfl, Z1⟩
  have c1 := Z1.ch
  have bq_1 := Bk.put Z1
  have z1 := c1.size
  refine VO.nil ?_
  refine VQ.then_code ?_
  refine VC.seq ?_
  refine VC.region ?_
  refine VO.mv (Rn.move rfl) rfl rfl rfl ?_
  refine VO.mv (Rn.nilCheck rfl) rfl rfl rfl ?_
  refine VO.mv (Rn.field Tryz.underlying62 rfl Tryz.sizeOf60 rfl rfl rfl) rfl rfl rfl ?_
  refine VO.defer rfl ?_
  refine VO.nil ?_
  refine VQ.then_code ?_
  refine VC.seq ?_
  refine VC.region ?_
  refine VO.mv (Rn.move rfl) rfl rfl rfl ?_
  refine VO.mv (Rn.nilCheck rfl) rfl rfl rfl ?_
  refine VO.mv (Rn.field Tryz.underlying62 rfl Tryz.sizeOf53 rfl rfl rfl) rfl rfl rfl ?_
  refine VO.mv (Rn.load Tryz.isAgg53 rfl (bq_1.cell rfl)) rfl rfl rfl ?_
  refine VO.mv (Rn.move rfl) rfl rfl rfl ?_
  have mp_1 := mp.to c1 (by first | exact id | omega)
  refine VO.mv (Rn.lookup_some Tryz.underlying53 (KeyK.str Tryz.underlying9) rfl rfl mp_1 hm) rfl rfl rfl ?_
  refine VO.mv (Rn.move rfl) rfl rfl rfl ?_
  refine VO.mv (Rn.extract rfl rfl) rfl rfl rfl ?_
  refine VO.mv (Rn.extract rfl rfl) rfl rfl rfl ?_
  refine VO.mv (Rn.assign rfl) rfl rfl rfl ?_
  refine VO.mv (Rn.assign rfl) rfl rfl rfl ?_
  refine VO.nil ?_
  refine VQ.then_code ?_
  refine VC.seq ?_
  refine VC.seq ?_
  refine VC.region ?_
  refine VO.mv (Rn.move rfl) rfl rfl rfl ?_
  refine VO.mv (Rn.not rfl) rfl rfl rfl ?_
  refine VO.nil ?_
  refine VQ.then_code ?_
  refine VC.cond_false rfl ?_
  refine VC.skip ?_
  refine VQ.then_code ?_
  refine VC.seq ?_
  have row_1 := row.to c1 (by first | exact fun _ _ _ _ => id | (intro q h1 h2 hx h3; omega))
  have sr6 : StR w1 q mb r 1 mo L _ := ⟨_, _, bq_1, row_1, mp_1⟩
  refine VC.region ?_
  refine VO.mv (Rn.move rfl) rfl rfl rfl ?_
  refine VO.mv (Rn.move rfl) rfl rfl rfl ?_
  refine VO.wk (Wk.call Tryz.call25 rfl (st_used _ _ _ _ _ _ _ _ _ sr6 (by omega))) rfl rfl rfl ?_
  rintro _ w2 ⟨r2, rfl, sr2, y2, c2⟩
  have ls2 := sr2.lt
  have z2 := c2.size
  refine VO.nil ?_
  refine VQ.then_code ?_
  refine VC.seq ?_
  obtain ⟨A7, c7x, bq7, row7, mp7⟩ := id sr2
  refine VC.region ?_
  refine VO.mv (Rn.move rfl) rfl rfl rfl ?_
  refine VO.mv (Rn.assign rfl) rfl rfl rfl ?_
  refine VO.mv (Rn.assign rfl) rfl rfl rfl ?_
  refine VO.nil ?_
  refine VQ.then_code ?_
  refine VC.ret ?_
  refine VQ.unlockD muLib bq7 rfl ?_
  intro w3 Z3
  have c3 := Z3.ch; have z3 := Z3.size
  have bq_3 := Bk.put Z3
  refine VQ.toD ?_
  refine VQ.ret2 rfl rfl rfl ?_
  refine Ret.mk ?_
  have row_3 := row7.to c3 (by first | exact fun _ _ _ _ => id | (intro q h1 h2 hx h3; omega))
  have mp_3 := mp7.to c3 (by first | exact id | omega)
  have CH_1 : Ch (QS q mb r) w w1 := (Ch.refl (QS q mb r) w).then c1 (by intro q h1 h2; rcases h2 with h2 | h2 <;> first | exact h2 | (exfalso; omega) | omega)
  have CH_2 : Ch (QS q mb r) w w2 := CH_1.then c2 (by intro q h1 h2; rcases h2 with h2 | h2 <;> first | exact h2 | (exfalso; omega) | omega)
  have CH_3 : Ch (QS q mb r) w w3 := CH_2.then c3 (by intro q h1 h2; rcases h2 with h2 | h2 <;> first | exact h2 | (exfalso; omega) | omega)
  exact ⟨_, rfl, ⟨_, _, bq_3, row_3, mp_3⟩, by omega, CH_3⟩

set_option maxRecDepth 100000 in
theorem st_Get_miss (E : Nat → Addr) (mo : Nat) (q mb r : Nat) (L : List (List UInt8)) (m : List (List UInt8 × Value)) (x : List UInt8) (w : World) (sr : StR w q mb r 0 mo L m) (hL : L.length ≤ 100000) (B : Nat) (er : ErrT B E w) (hq : B ≤ q) (hm : mfind m x = none) :
    Calls Tryz.prog 9 #[.pointer (some ⟨q, 0, none⟩), strV x] w (Ret (fun v w' => v = .tuple #[.pointer none, errV E 2] ∧ StR w' q mb r 0 mo L m ∧ Ch (QS q mb r) w w')) := by
  obtain ⟨A, c, bq, row, mp⟩ := id sr
  have ls := sr.lt; have lrow := row.lt; have hwl := without_len x L
  refine calls_of_VCD (args := [.pointer (some ⟨q, 0, none⟩), strV x]) Tryz.func9 rfl Tryz.ntmps9 rfl ?_
  refine VC.seq ?_
  refine VC.region ?_
  refine VO.mv (Rn.assign rfl) rfl rfl rfl ?_
  refine VO.mv (Rn.assign rfl) rfl rfl rfl ?_
  refine VO.nil ?_
  refine VQ.then_code ?_
  refine VC.seq ?_
  refine VC.region ?_
  refine VO.mv (Rn.move rfl) rfl rfl rfl ?_
  refine VO.mv (Rn.nilCheck rfl) rfl rfl rfl ?_
  refine VO.mv (Rn.field Tryz.underlying62 rfl Tryz.sizeOf60 rfl rfl rfl) rfl rfl rfl ?_
  refine VO.wk (Wk.call Tryz.call23 rfl (mutex_lock muLib bq rfl)) rfl rfl rfl ?_
  rintro _ w1 ⟨rfl, Z1⟩
  have c1 := Z1.ch
  have bq_1 := Bk.put Z1
  have z1 := c1.size
  refine VO.nil ?_
  refine VQ.then_code ?_
  refine VC.seq ?_
  refine VC.region ?_
  refine VO.mv (Rn.move rfl) rfl rfl rfl ?_
  refine VO.mv (Rn.nilCheck rfl) rfl rfl rfl ?_
  refine VO.mv (Rn.field Tryz.underlying62 rfl Tryz.sizeOf60 rfl rfl rfl) rfl rfl rfl ?_
  refine VO.defer rfl ?_
  refine VO.nil ?_
  refine VQ.then_code ?_
  refine VC.seq ?_
  refine VC.region ?_
  refine VO.mv (Rn.move rfl) rfl rfl rfl ?_
  refine VO.mv (Rn.nilCheck rfl) rfl rfl rfl ?_
  refine VO.mv (Rn.field Tryz.underlying62 rfl Tryz.sizeOf53 rfl rfl rfl) rfl rfl rfl ?_
  refine VO.mv (Rn.load Tryz.isAgg53 rfl (bq_1.cell rfl)) rfl rfl rfl ?_
  refine VO.mv (Rn.move rfl) rfl rfl rfl ?_
  have mp_1 := mp.to c1 (by first | exact id | omega)
  refine VO.mv (Rn.lookup_none Tryz.underlying53 (KeyK.str Tryz.underlying9) Tryz.zeroValue33 rfl rfl mp_1 hm) rfl rfl rfl ?_
  refine VO.mv (Rn.move rfl) rfl rfl rfl ?_
  refine VO.mv (Rn.extract rfl rfl) rfl rfl rfl ?_
  refine VO.mv (Rn.extract rfl rfl) rfl rfl rfl ?_
  refine VO.mv (Rn.assign rfl) rfl rfl rfl ?_
  refine VO.mv (Rn.assign rfl) rfl rfl rfl ?_
  refine VO.nil ?_
  refine VQ.then_code ?_
  refine VC.seq ?_
  refine VC.seq ?_
  refine VC.region ?_
  refine VO.mv (Rn.move rfl) rfl rfl rfl ?_
  refine VO.mv (Rn.not rfl) rfl rfl rfl ?_
  refine VO.nil ?_
  refine VQ.then_code ?_
  refine VC.cond_true rfl ?_
  refine VC.seq ?_
  refine VC.draws 2 [(0, true), (1, true)] (fun w1 w' => Ch (No) w1 w') mixed (by kernel_rfl) (fun _ _ => Ch.refl _ _) ?_
  intro w2 D2
  have c2 := Ch.of_drew D2; have z2 := c2.size
  have bq_2 := bq_1.keep c2
  have row_1 := row.to c1 (by first | exact fun _ _ _ _ => id | (intro q h1 h2 hx h3; omega))
  have row_2 := row_1.keep c2
  have mp_2 := mp_1.keep c2
  have er_1 := er.to c1 (by first | exact fun _ _ _ _ => id | (intro q h1 h2 hx h3; omega))
  have er_2 := er_1.keep c2
  refine VH.mv (fun w' hS => Rn.load Tryz.isAgg27 rfl ((er_2.keep hS).get 2 (by decide))) rfl rfl rfl rfl ?_
  refine VH.mv (fun w' hS => Rn.assign rfl) rfl rfl rfl rfl ?_
  refine VH.done ?_
  refine VO.mv (Rn.assign rfl) rfl rfl rfl ?_
  refine VO.nil ?_
  refine VQ.noPanic ?_
  refine VQ.then_code ?_
  refine VC.ret ?_
  refine VQ.then_ret ?_
  refine VQ.unlockD muLib bq_2 rfl ?_
  intro w3 Z3
  have c3 := Z3.ch; have z3 := Z3.size
  have bq_3 := Bk.put Z3
  refine VQ.toD ?_
  refine VQ.ret2 rfl rfl rfl ?_
  refine Ret.mk ?_
  have row_3 := row_2.to c3 (by first | exact fun _ _ _ _ => id | (intro q h1 h2 hx h3; omega))
  have mp_3 := mp_2.to c3 (by first | exact id | omega)
  have CH_1 : Ch (QS q mb r) w w1 := (Ch.refl (QS q mb r) w).then c1 (by intro q h1 h2; rcases h2 with h2 | h2 <;> first | exact h2 | (exfalso; omega) | omega)
  have CH_2 := CH_1.and c2
  have CH_3 : Ch (QS q mb r) w w3 := CH_2.then c3 (by intro q h1 h2; rcases h2 with h2 | h2 <;> first | exact h2 | (exfalso; omega) | omega)
  exact ⟨rfl, ⟨_, _, bq_3, row_3, mp_3⟩, CH_3⟩

set_option maxRecDepth 100000 in
theorem st_Drop (pv : Value) (mo : Nat) (q mb r : Nat) (L : List (List UInt8)) (m : List (List UInt8 × Value)) (x : List UInt8) (w : World) (sr : StR w q mb r 0 mo L m) (hL : L.length ≤ 100000) (hm : mfind m x = some pv) :
    Calls Tryz.prog 16 #[.pointer (some ⟨q, 0, none⟩), strV x] w (Ret (fun v w' => v = .bool true ∧ StR w' q mb r 0 mo (without x L) (mdel m x) ∧ Ch (QS q mb r) w w')) := by
  obtain ⟨A, c, bq, row, mp⟩ := id sr
  have ls := sr.lt; have lrow := row.lt; have hwl := without_len x L
  refine calls_of_VCD (args := [.pointer (some ⟨q, 0, none⟩), strV x]) Tryz.func16 rfl Tryz.ntmps16 rfl ?_
  refine VC.seq ?_
  refine VC.region ?_
  refine VO.mv (Rn.assign rfl) rfl rfl rfl ?_
  refine VO.nil ?_
  refine VQ.then_code ?_
  refine VC.seq ?_
  refine VC.region ?_
  refine VO.mv (Rn.move rfl) rfl rfl rfl ?_
  refine VO.mv (Rn.nilCheck rfl) rfl rfl rfl ?_
  refine VO.mv (Rn.field Tryz.underlying62 rfl Tryz.sizeOf60 rfl rfl rfl) rfl rfl rfl ?_
  refine VO.wk (Wk.call Tryz.call23 rfl (mutex_lock muLib bq rfl)) rfl rfl rfl ?_
  rintro _ w1 ⟨rfl, Z1⟩
  have c1 := Z1.ch
  have bq_1 := Bk.put Z1
  have z1 := c1.size
  refine VO.nil ?_
  refine VQ.then_code ?_
  refine VC.seq ?_
  refine VC.region ?_
  refine VO.mv (Rn.move rfl) rfl rfl rfl ?_
  refine VO.mv (Rn.nilCheck rfl) rfl rfl rfl ?_
  refine VO.mv (Rn.field Tryz.underlying62 rfl Tryz.sizeOf60 rfl rfl rfl) rfl rfl rfl ?_
  refine VO.defer rfl ?_
  refine VO.nil ?_
  refine VQ.then_code ?_
  refine VC.seq ?_
  refine VC.region ?_
  refine VO.mv (Rn.move rfl) rfl rfl rfl ?_
  refine VO.mv (Rn.nilCheck rfl) rfl rfl rfl ?_
  refine VO.mv (Rn.field Tryz.underlying62 rfl Tryz.sizeOf53 rfl rfl rfl) rfl rfl rfl ?_
  refine VO.mv (Rn.load Tryz.isAgg53 rfl (bq_1.cell rfl)) rfl rfl rfl ?_
  refine VO.mv (Rn.move rfl) rfl rfl rfl ?_
  have mp_1 := mp.to c1 (by first | exact id | omega)
  refine VO.mv (Rn.lookup_some Tryz.underlying53 (KeyK.str Tryz.underlying9) rfl rfl mp_1 hm) rfl rfl rfl ?_
  refine VO.mv (Rn.move rfl) rfl rfl rfl ?_
  refine VO.mv (Rn.extract rfl rfl) rfl rfl rfl ?_
  refine VO.mv (Rn.extract rfl rfl) rfl rfl rfl ?_
  refine VO.mv (Rn.assign rfl) rfl rfl rfl ?_
  refine VO.mv (Rn.assign rfl) rfl rfl rfl ?_
  refine VO.nil ?_
  refine VQ.then_code ?_
  refine VC.seq ?_
  refine VC.region ?_
  refine VO.mv (Rn.move rfl) rfl rfl rfl ?_
  refine VO.mv (Rn.nilCheck rfl) rfl rfl rfl ?_
  refine VO.mv (Rn.field Tryz.underlying62 rfl Tryz.sizeOf53 rfl rfl rfl) rfl rfl rfl ?_
  refine VO.mv (Rn.load Tryz.isAgg53 rfl (bq_1.cell rfl)) rfl rfl rfl ?_
  refine VO.mv (Rn.move rfl) rfl rfl rfl ?_
  refine VO.wk0 (Wk.mapDel Tryz.underlying53 (KeyK.str Tryz.underlying9) rfl rfl mp_1) rfl rfl ?_
  rintro _ w2 ⟨c2, z2, mp_2⟩
  have z2 := c2.size
  refine VO.nil ?_
  refine VQ.then_code ?_
  refine VC.seq ?_
  have bq_2 := bq_1.to c2 (by first | exact id | omega)
  have row_1 := row.to c1 (by first | exact fun _ _ _ _ => id | (intro q h1 h2 hx h3; omega))
  have row_2 := row_1.to c2 (by first | exact fun _ _ _ _ => id | (intro q h1 h2 hx h3; omega))
  have sr6 : StR w2 q mb r 1 mo L _ := ⟨_, _, bq_2, row_2, mp_2⟩
  refine VC.region ?_
  refine VO.mv (Rn.move rfl) rfl rfl rfl ?_
  refine VO.mv (Rn.move rfl) rfl rfl rfl ?_
  refine VO.wk (Wk.call Tryz.call26 rfl (st_without _ _ _ _ _ _ _ _ _ sr6 (by omega))) rfl rfl rfl ?_
  rintro _ w3 ⟨rfl, sr3, c3⟩
  have ls3 := sr3.lt
  have z3 := c3.size
  refine VO.nil ?_
  refine VQ.then_code ?_
  refine VC.seq ?_
  obtain ⟨A7, c7x, bq7, row7, mp7⟩ := id sr3
  refine VC.region ?_
  refine VO.mv (Rn.move rfl) rfl rfl rfl ?_
  refine VO.mv (Rn.assign rfl) rfl rfl rfl ?_
  refine VO.nil ?_
  refine VQ.then_code ?_
  refine VC.ret ?_
  refine VQ.unlockD muLib bq7 rfl ?_
  intro w4 Z4
  have c4 := Z4.ch; have z4 := Z4.size
  have bq_4 := Bk.put Z4
  refine VQ.toD ?_
  refine VQ.ret1 rfl rfl ?_
  refine Ret.mk ?_
  have row_4 := row7.to c4 (by first | exact fun _ _ _ _ => id | (intro q h1 h2 hx h3; omega))
  have mp_4 := mp7.to c4 (by first | exact id | omega)
  have CH_1 : Ch (QS q mb r) w w1 := (Ch.refl (QS q mb r) w).then c1 (by intro q h1 h2; rcases h2 with h2 | h2 <;> first | exact h2 | (exfalso; omega) | omega)
  have CH_2 : Ch (QS q mb r) w w2 := CH_1.then c2 (by intro q h1 h2; rcases h2 with h2 | h2 <;> first | exact h2 | (exfalso; omega) | omega)
  have CH_3 : Ch (QS q mb r) w w3 := CH_2.then c3 (by intro q h1 h2; rcases h2 with h2 | h2 <;> first | exact h2 | (exfalso; omega) | omega)
  have CH_4 : Ch (QS q mb r) w w4 := CH_3.then c4 (by intro q h1 h2; rcases h2 with h2 | h2 <;> first | exact h2 | (exfalso; omega) | omega)
  exact ⟨rfl, ⟨_, _, bq_4, row_4, mp_4⟩, CH_4⟩

set_option maxRecDepth 100000 in
theorem st_Drop_miss (mo : Nat) (q mb r : Nat) (L : List (List UInt8)) (m : List (List UInt8 × Value)) (x : List UInt8) (w : World) (sr : StR w q mb r 0 mo L m) (hL : L.length ≤ 100000) (hm : mfind m x = none) :
    Calls Tryz.prog 16 #[.pointer (some ⟨q, 0, none⟩), strV x] w (Ret (fun v w' => v = .bool false ∧ StR w' q mb r 0 mo (without x L) (mdel m x) ∧ Ch (QS q mb r) w w')) := by
  obtain ⟨A, c, bq, row, mp⟩ := id sr
  have ls := sr.lt; have lrow := row.lt; have hwl := without_len x L
  refine calls_of_VCD (args := [.pointer (some ⟨q, 0, none⟩), strV x]) Tryz.func16 rfl Tryz.ntmps16 rfl ?_
  refine VC.seq ?_
  refine VC.region ?_
  refine VO.mv (Rn.assign rfl) rfl rfl rfl ?_
  refine VO.nil ?_
  refine VQ.then_code ?_
  refine VC.seq ?_
  refine VC.region ?_
  refine VO.mv (Rn.move rfl) rfl rfl rfl ?_
  refine VO.mv (Rn.nilCheck rfl) rfl rfl rfl ?_
  refine VO.mv (Rn.field Tryz.underlying62 rfl Tryz.sizeOf60 rfl rfl rfl) rfl rfl rfl ?_
  refine VO.wk (Wk.call Tryz.call23 rfl (mutex_lock muLib bq rfl)) rfl rfl rfl ?_
  rintro _ w1 ⟨rfl, Z1⟩
  have c1 := Z1.ch
  have bq_1 := Bk.put Z1
  have z1 := c1.size
  refine VO.nil ?_
  refine VQ.then_code ?_
  refine VC.seq ?_
  refine VC.region ?_
  refine VO.mv (Rn.move rfl) rfl rfl rfl ?_
  refine VO.mv (Rn.nilCheck rfl) rfl rfl rfl ?_
  refine VO.mv (Rn.field Tryz.underlying62 rfl Tryz.sizeOf60 rfl rfl rfl) rfl rfl rfl ?_
  refine VO.defer rfl ?_
  refine VO.nil ?_
  refine VQ.then_code ?_
  refine VC.seq ?_
  refine VC.region ?_
  refine VO.mv (Rn.move rfl) rfl rfl rfl ?_
  refine VO.mv (Rn.nilCheck rfl) rfl rfl rfl ?_
  refine VO.mv (Rn.field Tryz.underlying62 rfl Tryz.sizeOf53 rfl rfl rfl) rfl rfl rfl ?_
  refine VO.mv (Rn.load Tryz.isAgg53 rfl (bq_1.cell rfl)) rfl rfl rfl ?_
  refine VO.mv (Rn.move rfl) rfl rfl rfl ?_
  have mp_1 := mp.to c1 (by first | exact id | omega)
  refine VO.mv (Rn.lookup_none Tryz.underlying53 (KeyK.str Tryz.underlying9) Tryz.zeroValue33 rfl rfl mp_1 hm) rfl rfl rfl ?_
  refine VO.mv (Rn.move rfl) rfl rfl rfl ?_
  refine VO.mv (Rn.extract rfl rfl) rfl rfl rfl ?_
  refine VO.mv (Rn.extract rfl rfl) rfl rfl rfl ?_
  refine VO.mv (Rn.assign rfl) rfl rfl rfl ?_
  refine VO.mv (Rn.assign rfl) rfl rfl rfl ?_
  refine VO.nil ?_
  refine VQ.then_code ?_
  refine VC.seq ?_
  refine VC.region ?_
  refine VO.mv (Rn.move rfl) rfl rfl rfl ?_
  refine VO.mv (Rn.nilCheck rfl) rfl rfl rfl ?_
  refine VO.mv (Rn.field Tryz.underlying62 rfl Tryz.sizeOf53 rfl rfl rfl) rfl rfl rfl ?_
  refine VO.mv (Rn.load Tryz.isAgg53 rfl (bq_1.cell rfl)) rfl rfl rfl ?_
  refine VO.mv (Rn.move rfl) rfl rfl rfl ?_
  refine VO.wk0 (Wk.mapDel Tryz.underlying53 (KeyK.str Tryz.underlying9) rfl rfl mp_1) rfl rfl ?_
  rintro _ w2 ⟨c2, z2, mp_2⟩
  have z2 := c2.size
  refine VO.nil ?_
  refine VQ.then_code ?_
  refine VC.seq ?_
  have bq_2 := bq_1.to c2 (by first | exact id | omega)
  have row_1 := row.to c1 (by first | exact fun _ _ _ _ => id | (intro q h1 h2 hx h3; omega))
  have row_2 := row_1.to c2 (by first | exact fun _ _ _ _ => id | (intro q h1 h2 hx h3; omega))
  have sr6 : StR w2 q mb r 1 mo L _ := ⟨_, _, bq_2, row_2, mp_2⟩
  refine VC.region ?_
  refine VO.mv (Rn.move rfl) rfl rfl rfl ?_
  refine VO.mv (Rn.move rfl) rfl rfl rfl ?_
  refine VO.wk (Wk.call Tryz.call26 rfl (st_without _ _ _ _ _ _ _ _ _ sr6 (by omega))) rfl rfl rfl ?_
  rintro _ w3 ⟨rfl, sr3, c3⟩
  have ls3 := sr3.lt
  have z3 := c3.size
  refine VO.nil ?_
  refine VQ.then_code ?_
  refine VC.seq ?_
  obtain ⟨A7, c7x, bq7, row7, mp7⟩ := id sr3
  refine VC.region ?_
  refine VO.mv (Rn.move rfl) rfl rfl rfl ?_
  refine VO.mv (Rn.assign rfl) rfl rfl rfl ?_
  refine VO.nil ?_
  refine VQ.then_code ?_
  refine VC.ret ?_
  refine VQ.unlockD muLib bq7 rfl ?_
  intro w4 Z4
  have c4 := Z4.ch; have z4 := Z4.size
  have bq_4 := Bk.put Z4
  refine VQ.toD ?_
  refine VQ.ret1 rfl rfl ?_
  refine Ret.mk ?_
  have row_4 := row7.to c4 (by first | exact fun _ _ _ _ => id | (intro q h1 h2 hx h3; omega))
  have mp_4 := mp7.to c4 (by first | exact id | omega)
  have CH_1 : Ch (QS q mb r) w w1 := (Ch.refl (QS q mb r) w).then c1 (by intro q h1 h2; rcases h2 with h2 | h2 <;> first | exact h2 | (exfalso; omega) | omega)
  have CH_2 : Ch (QS q mb r) w w2 := CH_1.then c2 (by intro q h1 h2; rcases h2 with h2 | h2 <;> first | exact h2 | (exfalso; omega) | omega)
  have CH_3 : Ch (QS q mb r) w w3 := CH_2.then c3 (by intro q h1 h2; rcases h2 with h2 | h2 <;> first | exact h2 | (exfalso; omega) | omega)
  have CH_4 : Ch (QS q mb r) w w4 := CH_3.then c4 (by intro q h1 h2; rcases h2 with h2 | h2 <;> first | exact h2 | (exfalso; omega) | omega)
  exact ⟨rfl, ⟨_, _, bq_4, row_4, mp_4⟩, CH_4⟩

set_option maxRecDepth 100000 in
theorem st_Len (mo : Nat) (q mb r : Nat) (L : List (List UInt8)) (m : List (List UInt8 × Value)) (w : World) (sr : StR w q mb r 0 mo L m) (hL : L.length ≤ 100000)  :
    Calls Tryz.prog 11 #[.pointer (some ⟨q, 0, none⟩)] w (Ret (fun v w' => v = .int .i64 L.length ∧ StR w' q mb r 0 mo L m ∧ Ch (QS q mb r) w w')) := by
  obtain ⟨A, c, bq, row, mp⟩ := id sr
  have ls := sr.lt; have lrow := row.lt
  refine calls_of_VCD (args := [.pointer (some ⟨q, 0, none⟩)]) Tryz.func11 rfl Tryz.ntmps11 rfl ?_
  refine VC.seq ?_
  refine VC.region ?_
  refine VO.mv (Rn.assign rfl) rfl rfl rfl ?_
  refine VO.nil ?_
  refine VQ.then_code ?_
  refine VC.seq ?_
  refine VC.region ?_
  refine VO.mv (Rn.move rfl) rfl rfl rfl ?_
  refine VO.mv (Rn.nilCheck rfl) rfl rfl rfl ?_
  refine VO.mv (Rn.field Tryz.underlying62 rfl Tryz.sizeOf60 rfl rfl rfl) rfl rfl rfl ?_
  refine VO.wk (Wk.call Tryz.call23 rfl (mutex_lock muLib bq rfl)) rfl rfl rfl ?_
  rintro _ w1 ⟨rfl, Z1⟩
  have c1 := Z1.ch
  have bq_1 := Bk.put Z1
  have z1 := c1.size
  refine VO.nil ?_
  refine VQ.then_code ?_
  refine VC.seq ?_
  refine VC.region ?_
  refine VO.mv (Rn.move rfl) rfl rfl rfl ?_
  refine VO.mv (Rn.nilCheck rfl) rfl rfl rfl ?_
  refine VO.mv (Rn.field Tryz.underlying62 rfl Tryz.sizeOf60 rfl rfl rfl) rfl rfl rfl ?_
  refine VO.defer rfl ?_
  refine VO.nil ?_
  refine VQ.then_code ?_
  refine VC.seq ?_
  refine VC.region ?_
  refine VO.mv (Rn.move rfl) rfl rfl rfl ?_
  refine VO.mv (Rn.nilCheck rfl) rfl rfl rfl ?_
  refine VO.mv (Rn.field Tryz.underlying62 rfl Tryz.sizeOf30 rfl rfl rfl) rfl rfl rfl ?_
  refine VO.mv (Rn.load Tryz.isAgg30 rfl (bq_1.cell rfl)) rfl rfl rfl ?_
  refine VO.mv (Rn.len Tryz.underlying30 rfl) rfl rfl rfl ?_
  refine VO.mv (Rn.assign rfl) rfl rfl rfl ?_
  refine VO.nil ?_
  refine VQ.then_code ?_
  refine VC.ret ?_
  refine VQ.unlockD muLib bq_1 rfl ?_
  intro w2 Z2
  have c2 := Z2.ch; have z2 := Z2.size
  have bq_2 := Bk.put Z2
  refine VQ.toD ?_
  refine VQ.ret1 rfl rfl ?_
  refine Ret.mk ?_
  have row_1 := row.to c1 (by first | exact fun _ _ _ _ => id | (intro q h1 h2 hx h3; omega))
  have row_2 := row_1.to c2 (by first | exact fun _ _ _ _ => id | (intro q h1 h2 hx h3; omega))
  have mp_1 := mp.to c1 (by first | exact id | omega)
  have mp_2 := mp_1.to c2 (by first | exact id | omega)
  have CH_1 : Ch (QS q mb r) w w1 := (Ch.refl (QS q mb r) w).then c1 (by intro q h1 h2; rcases h2 with h2 | h2 <;> first | exact h2 | (exfalso; omega) | omega)
  have CH_2 : Ch (QS q mb r) w w2 := CH_1.then c2 (by intro q h1 h2; rcases h2 with h2 | h2 <;> first | exact h2 | (exfalso; omega) | omega)
  exact ⟨rfl, ⟨_, _, bq_2, row_2, mp_2⟩, CH_2⟩

set_option maxRecDepth 100000 in
theorem st_Names (mo : Nat) (q mb r : Nat) (L : List (List UInt8)) (m : List (List UInt8 × Value)) (w : World) (sr : StR w q mb r 0 mo L m) (hL : L.length ≤ 100000)  :
    Calls Tryz.prog 13 #[.pointer (some ⟨q, 0, none⟩)] w (Ret (fun v w' => ∃ p rc A c, v = .func (.func 28) #[] #[.pointer (some ⟨p, 0, none⟩)] ∧ Bk w' p #[.slice A L.length c] 30 ∧ Ow w' rc 9 1 A L.length c (L.map strV) ∧ w.heap.size ≤ p ∧ (rc = 0 ∨ w.heap.size < rc) ∧ rc ≠ p + 1 ∧ StR w' q mb r 0 mo L m ∧ Ch (QS q mb r) w w')) := by
  obtain ⟨A, c, bq, row, mp⟩ := id sr
  have ls := sr.lt; have lrow := row.lt
  refine calls_of_VCD (args := [.pointer (some ⟨q, 0, none⟩)]) Tryz.func13 rfl Tryz.ntmps13 rfl ?_
  refine VC.seq ?_
  refine VC.region ?_
  refine VO.mv (Rn.assign rfl) rfl rfl rfl ?_
  refine VO.nil ?_
  refine VQ.then_code ?_
  refine VC.seq ?_
  refine VC.region ?_
  refine VO.mv (Rn.move rfl) rfl rfl rfl ?_
  refine VO.mv (Rn.nilCheck rfl) rfl rfl rfl ?_
  refine VO.mv (Rn.field Tryz.underlying62 rfl Tryz.sizeOf60 rfl rfl rfl) rfl rfl rfl ?_
  refine VO.wk (Wk.call Tryz.call23 rfl (mutex_lock muLib bq rfl)) rfl rfl rfl ?_
  rintro _ w1 ⟨rfl, Z1⟩
  have c1 := Z1.ch
  have bq_1 := Bk.put Z1
  have z1 := c1.size
  refine VO.nil ?_
  refine VQ.then_code ?_
  refine VC.seq ?_
  refine VC.region ?_
  refine VO.mv (Rn.move rfl) rfl rfl rfl ?_
  refine VO.mv (Rn.nilCheck rfl) rfl rfl rfl ?_
  refine VO.mv (Rn.field Tryz.underlying62 rfl Tryz.sizeOf60 rfl rfl rfl) rfl rfl rfl ?_
  refine VO.defer rfl ?_
  refine VO.nil ?_
  refine VQ.then_code ?_
  refine VC.seq ?_
  refine VC.region ?_
  refine VO.mv (Rn.move rfl) rfl rfl rfl ?_
  refine VO.mv (Rn.nilCheck rfl) rfl rfl rfl ?_
  refine VO.mv (Rn.field Tryz.underlying62 rfl Tryz.sizeOf30 rfl rfl rfl) rfl rfl rfl ?_
  refine VO.mv (Rn.load Tryz.isAgg30 rfl (bq_1.cell rfl)) rfl rfl rfl ?_
  have row_1 := row.to c1 (by first | exact fun _ _ _ _ => id | (intro q h1 h2 hx h3; omega))
  refine VO.wk (Wk.call Tryz.call27 rfl (clone_names _ _ _ _ L _ rfl row_1 (by omega))) rfl rfl rfl ?_
  rintro _ w2 ⟨rc2, nA2, nc2, rfl, cl2, c2, yc2⟩
  have lcl2 := cl2.lt
  have z2 := c2.size
  refine VO.wk (Wk.alloc Tryz.zeroValue30) rfl rfl rfl ?_
  rintro _ w3 ⟨p3, rfl, N3⟩
  have c3 := N3.ch
  have e3 := N3.p; have z3 := N3.size
  have b3 := Bk.new N3
  refine VO.wk0 (Wk.put Tryz.sizeOf30 rfl rfl rfl rfl b3 rfl) rfl rfl ?_
  intro _ w4 Z4
  have c4 := Z4.ch; have z4 := Z4.size
  have b3_4 := Bk.put Z4
  refine VO.nil ?_
  refine VQ.then_code ?_
  refine VC.seq ?_
  refine VC.region ?_
  refine VO.mv (Rn.func rfl rfl) rfl rfl rfl ?_
  refine VO.mv (Rn.assign rfl) rfl rfl rfl ?_
  refine VO.nil ?_
  refine VQ.then_code ?_
  refine VC.ret ?_
  have cc_1_4 : Ch No w1 w4 := (Ch.then (E := No) (c2.and c3) c4 (by intro q h1 h2; rcases h2 with h2 | h2 <;> first | exact h2 | (exfalso; omega)))
  have bq_4 := bq_1.keep cc_1_4
  refine VQ.unlockD muLib bq_4 rfl ?_
  intro w5 Z5
  have c5 := Z5.ch; have z5 := Z5.size
  have bq_5 := Bk.put Z5
  refine VQ.toD ?_
  refine VQ.ret1 rfl rfl ?_
  refine Ret.mk ?_
  have b3_5 := b3_4.to c5 (by first | exact id | omega)
  have cc_2_4 : Ch No w2 w4 := (Ch.then (E := No) c3 c4 (by intro q h1 h2; rcases h2 with h2 | h2 <;> first | exact h2 | (exfalso; omega)))
  have cl_4 := cl2.keep cc_2_4
  have cl_5 := cl_4.to c5 (by first | exact fun _ _ _ _ => id | (intro q h1 h2 hx h3; omega))
  have row_4 := row_1.keep cc_1_4
  have row_5 := row_4.to c5 (by first | exact fun _ _ _ _ => id | (intro q h1 h2 hx h3; omega))
  have mp_1 := mp.to c1 (by first | exact id | omega)
  have mp_4 := mp_1.keep cc_1_4
  have mp_5 := mp_4.to c5 (by first | exact id | omega)
  have CH_1 : Ch (QS q mb r) w w1 := (Ch.refl (QS q mb r) w).then c1 (by intro q h1 h2; rcases h2 with h2 | h2 <;> first | exact h2 | (exfalso; omega) | omega)
  have CH_4 := CH_1.and cc_1_4
  have CH_5 : Ch (QS q mb r) w w5 := CH_4.then c5 (by intro q h1 h2; rcases h2 with h2 | h2 <;> first | exact h2 | (exfalso; omega) | omega)
  exact ⟨_, _, _, _, rfl, b3_5, cl_5, by omega, by omega, by omega, ⟨_, _, bq_5, row_5, mp_5⟩, CH_5⟩

end Go.Tm
namespace Go.Tm
open Go.RowKit Go.Proofs
abbrev errOrd : List Nat := [4, 5, 0, 6, 7, 1, 8, 9, 10, 11, 12, 13, 14, 15, 16, 2, 3, 17, 18]
theorem Rn.idxV {P : Program} {n : Fr} {k : K} {w : World} {d : Option Nat} {ty : TypeId} {pos : String} {aft : Array Edge} {g : Option (Nat × Bool)} {t e : TypeId} {len : Nat} {x y : Operand} {cs : Array Value} {q : IntKind} {i : Int} {v : Value} (ht : P.underlying t = some (.array len e)) (ha : ∀ w, (isAgg e).run P w = .ok false w) (hz : ∀ w, (sizeOf e).run P w = .ok 1 w)
    (hx : ev k x = some (.agg cs)) (hy : ev k y = some (.int q i)) (h0 : 0 ≤ i) (h1 : i < len) (hv : cs[i.toNat]? = some v) :
    Rn P n k w { dst := d, op := .index t x y, type := ty, pos := pos, after := aft, guard := g } v :=
  fun a hf => by simp [execOp, hf.eval hx, hf.eval hy, Instr.index, run_underlying ht, asIntOf, h0, h1, part, ha, hz, hv]
set_option maxRecDepth 100000 in
theorem Rn.err_eql {n : Fr} {k : K} {w : World} {d : Option Nat} {ty : TypeId} {pos : String} {aft : Array Edge} {gd : Option (Nat × Bool)} {t' : TypeId} {x y : Operand} {B : Nat} {E : Nat → Addr} {g h : Nat} (er : ErrT B E w) (hg : g ∈ errGs) (hh : h ∈ errGs) (hx : ev k x = some (errV E g)) (hy : ev k y = some (errV E h)) :
    Rn Tryz.prog n k w { dst := d, op := .binOp .eql 27 x y t', type := ty, pos := pos, after := aft, guard := gd } (.bool (decide (g = h))) := by
  refine Rn.bin hx hy (fun x y => ?_)
  obtain ⟨_, ca, ta, b1⟩ := er.blk g hg
  obtain ⟨_, cb, tb, b2⟩ := er.blk h hh
  by_cases e : g = h
  · subst e
    have := run_eql_iface_ptr_same (P := Tryz.prog) w (ti := 27) (tp := 211) (E g) Tryz.underlying27 Tryz.underlying211 Tryz.type211 (by kernel_rfl) Tryz.type227
    simp [eqGuard_at_iface, this]
  · have hne : E g ≠ E h := fun e2 => e (er.inj g h hg hh e2)
    have := run_eql_iface_ptr_other (P := Tryz.prog) w (ti := 27) (tp := 211) Tryz.underlying27 Tryz.underlying211 Tryz.type211 (by kernel_rfl) Tryz.type227 (by decide) hne b1 b2
    simp [eqGuard_at_iface, this, e]
theorem errOrd_mem : ∀ (i g : Nat), errOrd[i]? = some g → g ∈ errGs := by
  intro i g h
  have := List.mem_of_getElem? h
  revert this
  exact (by decide : ∀ g ∈ errOrd, g ∈ errGs) g

theorem bld81_0_1_2_3_4_5_6_7_8_9_10_11_12_13_14_15_16_17_18w25 {v0 v1 v2 v3 v4 v5 v6 v7 v8 v9 v10 v11 v12 v13 v14 v15 v16 v17 v18 : Value} (h : [v0, v1, v2, v3, v4, v5, v6, v7, v8, v9, v10, v11, v12, v13, v14, v15, v16, v17, v18].all Value.oneCell' = true) (w : World) : (Instr.build 81 ([(0, v0), (1, v1), (2, v2), (3, v3), (4, v4), (5, v5), (6, v6), (7, v7), (8, v8), (9, v9), (10, v10), (11, v11), (12, v12), (13, v13), (14, v14), (15, v15), (16, v16), (17, v17), (18, v18)] : List (Nat × Value)).toArray).run Tryz.prog w = .ok (.agg #[v0, v1, v2, v3, v4, v5, v6, v7, v8, v9, v10, v11, v12, v13, v14, v15, v16, v17, v18]) w := by
  simp only [List.all_cons, Bool.and_eq_true, List.all_nil, and_true] at h
  have hv0 := oneCell_cells (v := v0) (by simp_all)
  have hv1 := oneCell_cells (v := v1) (by simp_all)
  have hv2 := oneCell_cells (v := v2) (by simp_all)
  have hv3 := oneCell_cells (v := v3) (by simp_all)
  have hv4 := oneCell_cells (v := v4) (by simp_all)
  have hv5 := oneCell_cells (v := v5) (by simp_all)
  have hv6 := oneCell_cells (v := v6) (by simp_all)
  have hv7 := oneCell_cells (v := v7) (by simp_all)
  have hv8 := oneCell_cells (v := v8) (by simp_all)
  have hv9 := oneCell_cells (v := v9) (by simp_all)
  have hv10 := oneCell_cells (v := v10) (by simp_all)
  have hv11 := oneCell_cells (v := v11) (by simp_all)
  have hv12 := oneCell_cells (v := v12) (by simp_all)
  have hv13 := oneCell_cells (v := v13) (by simp_all)
  have hv14 := oneCell_cells (v := v14) (by simp_all)
  have hv15 := oneCell_cells (v := v15) (by simp_all)
  have hv16 := oneCell_cells (v := v16) (by simp_all)
  have hv17 := oneCell_cells (v := v17) (by simp_all)
  have hv18 := oneCell_cells (v := v18) (by simp_all)
  have h1 := fill_set (fun i => some (i * 1, 1)) [(0, v0), (1, v1), (2, v2), (3, v3), (4, v4), (5, v5), (6, v6), (7, v7), (8, v8), (9, v9), (10, v10), (11, v11), (12, v12), (13, v13), (14, v14), (15, v15), (16, v16), (17, v17), (18, v18)] [.nilIface, .nilIface, .nilIface, .nilIface, .nilIface, .nilIface, .nilIface, .nilIface, .nilIface, .nilIface, .nilIface, .nilIface, .nilIface, .nilIface, .nilIface, .nilIface, .nilIface, .nilIface, .nilIface] (by simp [okF, agg_cells, hv0, hv1, hv2, hv3, hv4, hv5, hv6, hv7, hv8, hv9, hv10, hv11, hv12, hv13, hv14, hv15, hv16, hv17, hv18, Nat.beq, Nat.ble])
  simp [setF, agg_cells, hv0, hv1, hv2, hv3, hv4, hv5, hv6, hv7, hv8, hv9, hv10, hv11, hv12, hv13, hv14, hv15, hv16, hv17, hv18] at h1
  simp [Instr.build, Tryz.runUnderlying81, Tryz.zeroValue81, Tryz.sizeOf27, agg_cells, h1]
set_option maxRecDepth 100000 in
theorem num_list (B : Nat) (E : Nat → Addr) (w : World) (er : ErrT B E w) :
    Calls Tryz.prog 34 #[] w (Ret (fun v w' => v = .agg (errOrd.map (errV E)).toArray ∧ Ch No w w')) := by
  refine calls_of_VC (args := []) Tryz.func34 rfl Tryz.ntmps34 rfl ?_
  refine VC.seq ?_
  refine VC.region ?_
  refine VO.wk (Wk.alloc Tryz.zeroValue81) rfl rfl rfl ?_
  rintro _ w1 ⟨p1, rfl, N1⟩
  have c1 := N1.ch
  have e1 := N1.p; have z1 := N1.size
  have b0 := Bk.new N1
  refine VO.nil ?_
  refine VQ.then_code ?_
  refine VC.seq ?_
  refine VC.region ?_
  have er_1 := er.keep c1
  refine VO.mv (Rn.load Tryz.isAgg27 rfl (er_1.get 4 (by decide))) rfl rfl rfl ?_
  refine VO.mv (Rn.load Tryz.isAgg27 rfl (er_1.get 5 (by decide))) rfl rfl rfl ?_
  refine VO.mv (Rn.load Tryz.isAgg27 rfl (er_1.get 0 (by decide))) rfl rfl rfl ?_
  refine VO.mv (Rn.load Tryz.isAgg27 rfl (er_1.get 6 (by decide))) rfl rfl rfl ?_
  refine VO.mv (Rn.load Tryz.isAgg27 rfl (er_1.get 7 (by decide))) rfl rfl rfl ?_
  refine VO.mv (Rn.load Tryz.isAgg27 rfl (er_1.get 1 (by decide))) rfl rfl rfl ?_
  refine VO.mv (Rn.load Tryz.isAgg27 rfl (er_1.get 8 (by decide))) rfl rfl rfl ?_
  refine VO.mv (Rn.load Tryz.isAgg27 rfl (er_1.get 9 (by decide))) rfl rfl rfl ?_
  refine VO.mv (Rn.load Tryz.isAgg27 rfl (er_1.get 10 (by decide))) rfl rfl rfl ?_
  refine VO.mv (Rn.load Tryz.isAgg27 rfl (er_1.get 11 (by decide))) rfl rfl rfl ?_
  refine VO.mv (Rn.load Tryz.isAgg27 rfl (er_1.get 12 (by decide))) rfl rfl rfl ?_
  refine VO.mv (Rn.load Tryz.isAgg27 rfl (er_1.get 13 (by decide))) rfl rfl rfl ?_
  refine VO.mv (Rn.load Tryz.isAgg27 rfl (er_1.get 14 (by decide))) rfl rfl rfl ?_
  refine VO.mv (Rn.load Tryz.isAgg27 rfl (er_1.get 15 (by decide))) rfl rfl rfl ?_
  refine VO.mv (Rn.load Tryz.isAgg27 rfl (er_1.get 16 (by decide))) rfl rfl rfl ?_
  refine VO.mv (Rn.load Tryz.isAgg27 rfl (er_1.get 2 (by decide))) rfl rfl rfl ?_
  refine VO.mv (Rn.load Tryz.isAgg27 rfl (er_1.get 3 (by decide))) rfl rfl rfl ?_
  refine VO.mv (Rn.load Tryz.isAgg27 rfl (er_1.get 17 (by decide))) rfl rfl rfl ?_
  refine VO.mv (Rn.load Tryz.isAgg27 rfl (er_1.get 18 (by decide))) rfl rfl rfl ?_
  refine VO.mv (Rn.build rfl (bld81_0_1_2_3_4_5_6_7_8_9_10_11_12_13_14_15_16_17_18w25 rfl)) rfl rfl rfl ?_
  refine VO.wk0 (Wk.puts Tryz.sizeOf81 rfl rfl rfl rfl b0 (Nat.le_of_ble_eq_true rfl)) rfl rfl ?_
  intro _ w2 Z2
  have c2 := Z2.ch; have z2 := Z2.size
  have b0_2 := Bk.put Z2
  refine VO.nil ?_
  refine VQ.then_code ?_
  refine VC.ret ?_
  refine VQ.retc rfl rfl Tryz.isAgg81 Tryz.sizeOf81 rfl (b0_2.all' rfl) ?_
  refine Ret.mk ?_
  have cc_0_2 : Ch No w w2 := (Ch.then (E := No) c1 c2 (by intro q h1 h2; rcases h2 with h2 | h2 <;> first | exact h2 | (exfalso; omega)))
  have CH_2 := (Ch.refl (No) w).and cc_0_2
  exact ⟨rfl, CH_2⟩

set_option maxRecDepth 100000 in
theorem num_err (B : Nat) (E : Nat → Addr) (g k : Nat) (hk : errOrd[k]? = some g) (hf : ∀ j, j < k → ∀ h, errOrd[j]? = some h → g ≠ h) (w : World) (er : ErrT B E w) :
    Calls Tryz.prog 18 #[errV E g] w (Ret (fun v w' => v = .int .i64 ((k : Int) + 1) ∧ Ch No w w')) := by
  have hk19 : k < 19 := (List.getElem?_eq_some_iff.1 hk).1
  refine calls_of_VC (args := [errV E g]) Tryz.func18 rfl Tryz.ntmps18 rfl ?_
  refine VC.seq ?_
  refine VC.region ?_
  refine VO.mv (Rn.assign rfl) rfl rfl rfl ?_
  refine VO.nil ?_
  refine VQ.then_code ?_
  refine VC.seq ?_
  refine VC.seq ?_
  refine VC.region ?_
  refine VO.mv (Rn.move rfl) rfl rfl rfl ?_
  refine VO.mv (Rn.err_eql_nil Tryz.underlying27 rfl) rfl rfl rfl ?_
  refine VO.nil ?_
  refine VQ.then_code ?_
  refine VC.cond_false rfl ?_
  refine VC.skip ?_
  refine VQ.then_code ?_
  refine VC.seq ?_
  refine VC.seq ?_
  refine VC.region ?_
  refine VO.wk (Wk.call Tryz.call34 rfl (num_list _ _ _ er)) rfl rfl rfl ?_
  rintro _ w1 ⟨rfl, c1⟩
  have z1 := c1.size
  refine VO.mv (Rn.move rfl) rfl rfl rfl ?_
  refine VO.nil ?_
  refine VQ.then_code ?_
  refine VC.block ?_
  have er_1 := er.keep c1
  have CH_1 := (Ch.refl (No) w).and c1
  refine VC.loopS (σ := Nat) (fun i => [(0, errV E g), (7, .agg (errOrd.map (errV E)).toArray), (8, .int .i64 i)]) (fun i w' => i ≤ k ∧ w1.heap.size ≤ w'.heap.size ∧ ErrT B E w' ∧ Ch (No) w w') (fun i => 20 - i) 0 ?_ ⟨rfl, rfl, rfl, trivial⟩ ?_
  · exact ⟨(by omega), (Nat.le_refl _), er_1, CH_1⟩
  rintro i w2 ⟨hik, hsz2, er_2, CH_2⟩
  show VC _ _ _ _ [(0, errV E g), (7, .agg (errOrd.map (errV E)).toArray), (8, .int .i64 i)] _
  refine VC.seq ?_
  refine VC.region ?_
  refine VO.mv (Rn.lss rfl rfl) rfl rfl rfl ?_
  refine VO.nil ?_
  refine VQ.then_code ?_
  refine VC.seq ?_
  refine VC.cond_if rfl (fun hc1 => ?_) (fun hc1 => ?_)
  · skip
    refine VC.skip ?_
    refine VQ.then_code ?_
    refine VC.seq ?_
    refine VC.block ?_
    refine VC.seq ?_
    obtain ⟨h, hh⟩ : ∃ h, errOrd[i]? = some h := ⟨_, List.getElem?_eq_getElem (show i < 19 by omega)⟩
    refine VC.region ?_
    refine VO.mv (Rn.move rfl) rfl rfl rfl ?_
    refine VO.mv (Rn.idxV Tryz.underlying81 Tryz.isAgg27 Tryz.sizeOf27 rfl rfl (by omega) (by omega) (v := errV E h) (by simp only [List.getElem?_toArray, List.getElem?_map, Int.toNat_natCast, hh, Option.map_some])) rfl rfl rfl ?_
    refine VO.mv (Rn.assign rfl) rfl rfl rfl ?_
    refine VO.mv (Rn.assign rfl) rfl rfl rfl ?_
    refine VO.nil ?_
    refine VQ.then_code ?_
    refine VC.seq ?_
    refine VC.region ?_
    refine VO.mv (Rn.move rfl) rfl rfl rfl ?_
    refine VO.mv (Rn.move rfl) rfl rfl rfl ?_
    refine VO.mv (Rn.err_eql er_2 (errOrd_mem _ _ hk) (errOrd_mem _ _ hh) rfl rfl) rfl rfl rfl ?_
    refine VO.nil ?_
    refine VQ.then_code ?_
    refine VC.cond_if rfl (fun hc2 => ?_) (fun hc2 => ?_)
    · skip
      refine VC.seq ?_
      refine VC.region ?_
      refine VO.mv (Rn.move rfl) rfl rfl rfl ?_
      refine VO.mv (Rn.add rfl rfl (by rw [IntKind.wrap_i64]; omega)) rfl rfl rfl ?_
      refine VO.mv (Rn.assign rfl) rfl rfl rfl ?_
      refine VO.nil ?_
      refine VQ.then_code ?_
      refine VC.ret ?_
      refine VQ.block_ret ?_
      refine VQ.then_ret ?_
      refine VQ.then_ret ?_
      refine VQ.block_ret ?_
      refine VQ.then_ret ?_
      refine VQ.ret1 rfl rfl ?_
      refine Ret.mk ?_
      have hik2 : i = k := by rcases Nat.lt_or_ge i k with h9 | h9; (exact absurd hc2 (hf i h9 h hh)); omega
      subst hik2
      exact ⟨rfl, CH_2⟩
    · skip
      refine VC.skip ?_
      refine VQ.block_normal ?_
      refine VQ.then_code ?_
      refine VC.region ?_
      refine VO.mv (Rn.add rfl rfl (by rw [IntKind.wrap_i64]; omega)) rfl rfl rfl ?_
      refine VO.mv (Rn.move rfl) rfl rfl rfl ?_
      refine VO.nil ?_
      refine VQ.round (i + 1) (by first | omega | (dsimp only; omega)) ?_ ⟨rfl, rfl, rfl, trivial⟩
      have hne : i ≠ k := fun e => hc2 (by subst e; rw [hk] at hh; injection hh)
      exact ⟨(by omega), (by omega), er_2, CH_2⟩
  · skip
    omega

set_option maxRecDepth 100000 in
theorem num_nil (w : World) :
    Calls Tryz.prog 18 #[.nilIface] w (Ret (fun v w' => v = .int .i64 0 ∧ w = w')) := by
  refine calls_of_VC (args := [.nilIface]) Tryz.func18 rfl Tryz.ntmps18 rfl ?_
  refine VC.seq ?_
  refine VC.region ?_
  refine VO.mv (Rn.assign rfl) rfl rfl rfl ?_
  refine VO.nil ?_
  refine VQ.then_code ?_
  refine VC.seq ?_
  refine VC.seq ?_
  refine VC.region ?_
  refine VO.mv (Rn.move rfl) rfl rfl rfl ?_
  refine VO.mv (Rn.nil_eql_nil Tryz.underlying27 rfl) rfl rfl rfl ?_
  refine VO.nil ?_
  refine VQ.then_code ?_
  refine VC.cond_true rfl ?_
  refine VC.seq ?_
  refine VC.region ?_
  refine VO.mv (Rn.assign rfl) rfl rfl rfl ?_
  refine VO.nil ?_
  refine VQ.then_code ?_
  refine VC.ret ?_
  refine VQ.then_ret ?_
  refine VQ.ret1 rfl rfl ?_
  refine Ret.mk ?_
  exact ⟨rfl, rfl⟩

end Go.Tm
namespace Go.Tm
open Go.RowKit Go.Proofs
theorem VQ.retcc {P : Program} {k : K} {w : World} {m : Nat} {fn : Func} {R : Ending → World → Prop} {t u : Nat} {ty ty' : TypeId} {ad ad' : Addr} {v v' : Value} (hf : fn.results = #[.cell t ty, .cell u ty']) (hv : kget k t = some (.pointer (some ad))) (hu : kget k u = some (.pointer (some ad'))) (ht : ∀ w, (isAgg ty).run P w = .ok false w) (ht' : ∀ w, (isAgg ty').run P w = .ok false w)
    (hc : w.cell? ad = some v) (hc' : w.cell? ad' = some v') (hR : R (.returned (.tuple #[v, v'])) w) : VQ ⟨m, []⟩ (bodyPost P fn R) .ret k w :=
  VQ.post rfl (fun a ha => by have h1 := ha.known t _ hv; have h2 := ha.known u _ hu; simp [results, hf, h1, h2, loadVar, ht, ht', asAddr, hc, hc']) hR
def KpR (p rc : Nat) (w w' : World) : Prop := KpB p w w' ∧ ∀ g, rc = g + 1 → KpB g w w'
theorem KpR.trans {p rc : Nat} {A B C : World} (h : KpR p rc A B) (h' : KpR p rc B C) : KpR p rc A C := ⟨h.1.trans h'.1, fun g hg => (h.2 g hg).trans (h'.2 g hg)⟩
theorem KpR.putObj {p rc B : Nat} (hp : p < B) (hr : rc ≤ B) (W : World) (l : Nat) (o o' : Obj) (hl : B ≤ l) (h1 : W.heap[l]? = some o) (h2 : o.isCells = false) (h3 : o.isWalk = false) : KpR p rc W (W.putObj l o') :=
  ⟨KpB.putObj hp W l o o' hl h1 h2 h3, fun g hg => KpB.putObj (by omega) W l o o' hl h1 h2 h3⟩
theorem KpR.of {p rc : Nat} {D : Nat → Prop} {w w' : World} (c : Ch D w w') (hd : ∀ y, (y = p ∨ rc = y + 1) → ¬ D y) : KpR p rc w w' := ⟨KpB.of c (hd p (.inl rfl)), fun g hg => KpB.of c (hd g (.inr hg))⟩
theorem Ow.kp {w w' : World} {p r : Nat} {e : TypeId} {sz : Nat} {A : Option Addr} {l c : Nat} {cs : List Value} (h : Ow w r e sz A l c cs) (k : KpR p r w w') : Ow w' r e sz A l c cs := by
  obtain ⟨h1, h2⟩ := h
  refine ⟨h1, ?_⟩
  rcases h2 with h2 | ⟨g, cur, hA, ho, hg, h3⟩
  · exact .inl h2
  · exact .inr ⟨g, cur, hA, ho, k.2 g ho _ hg, h3⟩
theorem Rn.func_eql_nil {P : Program} {n : Fr} {k : K} {w : World} {d : Option Nat} {ty : TypeId} {pos : String} {aft : Array Edge} {g : Option (Nat × Bool)} {t t' : TypeId} {x : Operand} {f : Fn} {a b : Array Value} {ps rs : Array TypeId} {vr : Bool} (ht : P.underlying t = some (.func ps rs vr)) (hx : ev k x = some (.func f a b)) :
    Rn P n k w { dst := d, op := .binOp .eql t x (.const .nilFunc) t', type := ty, pos := pos, after := aft, guard := g } (.bool false) :=
  fun e he => by
    have h : ∀ d : Nat, (Op.equalIn (d + 1) t (.func f a b) .nilFunc).run P w = .ok false w := fun d => by simp [Op.equalIn, run_underlying ht]
    have h2 : (binOp .eql t (.func f a b) .nilFunc).run P w = .ok (.bool false) w := by
      simp only [binOp]
      simp [Op.equal, Op.maxDepth, h 9999]
    have hc : e.eval (.const .nilFunc) = .nilFunc := rfl
    simp [execOp, he.eval hx, hc, eqGuard, h2]
theorem Wk.lit0 {P : Program} {n : Fr} {k : K} {w : World} {d : Option Nat} {ty : TypeId} {pos : String} {aft : Array Edge} {g : Option (Nat × Bool)} {t e : TypeId} {z : Value} {sz by' : Nat} (ht : P.underlying t = some (.slice e)) (hi : Inf P e z sz by') :
    Wk P n k w { dst := d, op := .buildSlice t 0 #[], type := ty, pos := pos, after := aft, guard := g } (fun v w' => ∃ p, v = .slice (some ⟨p, 0, none⟩) 0 0 ∧ New w w' p (.cells #[] e)) :=
  Wk.of_run fun a ha => by
    obtain ⟨i, hi, hz, hs, rfl⟩ := hi
    exact ⟨_, _, by simp [execOp, Instr.buildSlice, run_underlying ht, sizeOf, typeInfo, hi, Instr.fill, show Array.map (fun (_ : Nat) => (default : Value)) (Array.range 0) = #[] from by simp [Array.range], newRow], _, rfl, rfl, rfl⟩
theorem StR.toG {B : Nat} {w w' : World} {q mb r : Nat} {lk most : Int} {L : List (List UInt8)} {m : List (List UInt8 × Value)} (h : StR w q mb r lk most L m) (g : Gn B w w') (hb : q < B ∧ mb < B ∧ r ≤ B) : StR w' q mb r lk most L m := h.to g fun y _ hy _ hd => by have := hd.1; omega
theorem Ow.isC {w : World} {r : Nat} {e : TypeId} {sz : Nat} {A : Option Addr} {l c : Nat} {cs : List Value} (h : Ow w r e sz A l c cs) (y : Nat) (hy : r = y + 1) : isC w y := by
  rcases h.2 with ⟨_, _, _, h⟩ | ⟨g, cur, _, ho, hg, _⟩
  · omega
  · have : g = y := by omega
    subst this
    exact ⟨_, _, _, hg⟩
theorem VQ.roundC {α : Type} {n : Fr} {k : K} {W w' : World} {B : Nat} {Kp : World → World → Prop} {I : List α → World → Prop} {Ix : Code → List α → World → Prop} {xs : List α} {D : Nat → Prop} (hc : Ch D W w') (hD : ∀ q, D q → q < B ∨ isC W q) (hk : Kp W w') (hI : I xs w') :
    VQ n (ownPostG B Kp I Ix xs W) .normal k w' := fun _ _ => ⟨⟨hc.size, fun q o hB hq hn => hc.old q o (fun h => by
      rcases hD q h with h | ⟨cs, t, fr, h⟩
      · omega
      · rw [h] at hq; injection hq with hq; subst hq; cases hn) hq⟩, hk, hI⟩

set_option maxRecDepth 100000 in
theorem inf9w26 : Inf Tryz.prog 9 (.string ⟨#[]⟩) 1 16 := ⟨Tryz.t9, Tryz.type9, rfl, rfl, rfl⟩
set_option maxRecDepth 100000 in
theorem names1 (l p rc : Nat) (A : Option Addr) (c : Nat) (L : List (List UInt8)) (hL : L.length ≤ 100000) (J Jx : List (List UInt8) → World → Prop) (W : World) (hY : ∀ (pre : List (List UInt8)) (x : List UInt8) W1, J pre W1 → pre.length < L.length → YieldAt Fence.wide 0 Tryz.prog l #[strV x] W1 fun e W' => (e = .returned (.bool true) ∧ J (pre ++ [x]) W' ∧ KpR p rc W1 W') ∨ (e = .returned (.bool false) ∧ Jx (pre ++ [x]) W')) (bp : Bk W p #[.slice A L.length c] 30) (hb : Ow W rc 9 1 A L.length c (L.map strV)) (hJ : J [] W) :
    Calls Tryz.prog 28 #[.func (.yield l) #[] #[], .pointer (some ⟨p, 0, none⟩)] W (Ret (fun _ w' => J L w' ∨ ∃ pre, pre = L.take pre.length ∧ Jx pre w')) := by
  refine calls_of_VC (args := [.func (.yield l) #[] #[], .pointer (some ⟨p, 0, none⟩)]) Tryz.func28 rfl Tryz.ntmps28 rfl ?_
  refine VC.seq ?_
  refine VC.region ?_
  refine VO.mv (Rn.load Tryz.isAgg30 rfl (bp.cell rfl)) rfl rfl rfl ?_
  refine VO.mv (Rn.len Tryz.underlying30 rfl) rfl rfl rfl ?_
  refine VO.mv (Rn.move rfl) rfl rfl rfl ?_
  refine VO.nil ?_
  refine VQ.then_code ?_
  refine VC.block ?_
  refine VC.loopS (σ := Nat) (fun i => [(0, .func (.yield l) #[] #[]), (1, .pointer (some ⟨p, 0, none⟩)), (5, .slice A L.length c), (6, .int .i64 L.length), (7, .int .i64 i)]) (fun i w' => i ≤ L.length ∧ Ow w' rc 9 1 A L.length c (L.map strV) ∧ J (L.take i) w') (fun i => L.length - i) 0 ?_ ⟨rfl, rfl, rfl, rfl, rfl, trivial⟩ ?_
  · exact ⟨Nat.zero_le _, hb, hJ⟩
  rintro i w1 ⟨hi, hb_1, hJ⟩
  show VC _ _ _ _ [(0, .func (.yield l) #[] #[]), (1, .pointer (some ⟨p, 0, none⟩)), (5, .slice A L.length c), (6, .int .i64 L.length), (7, .int .i64 i)] _
  refine VC.seq ?_
  refine VC.region ?_
  refine VO.mv (Rn.lss rfl rfl) rfl rfl rfl ?_
  refine VO.nil ?_
  refine VQ.then_code ?_
  refine VC.seq ?_
  refine VC.cond_if rfl (fun hc1 => ?_) (fun hc1 => ?_)
  · skip
    refine VC.skip ?_
    refine VQ.then_code ?_
    refine VC.seq ?_
    refine VC.block ?_
    refine VC.seq ?_
    obtain ⟨y, hy⟩ : ∃ y, L[i]? = some y := ⟨_, List.getElem?_eq_getElem (by omega)⟩
    refine VC.region ?_
    refine VO.mv (Rn.indexS Tryz.underlying30 Tryz.sizeOf9 rfl rfl (hb_1.sl.ne (by omega)) (by omega) (by omega)) rfl rfl rfl ?_
    refine VO.mv (Rn.load Tryz.isAgg9 rfl (hb_1.sl.one (by omega) (by rw [List.getElem?_map, show L[((i : Int)).toNat]? = some y from hy]; rfl))) rfl rfl rfl ?_
    refine VO.mv (Rn.assign rfl) rfl rfl rfl ?_
    refine VO.nil ?_
    refine VQ.then_code ?_
    refine VC.seq ?_
    refine VC.regionY ?_
    refine VY.mv (Rn.move rfl) rfl rfl rfl ?_
    refine VY.mv (Rn.move rfl) rfl rfl rfl ?_
    refine VY.yield rfl rfl (hY (L.take i) y _ hJ (by rw [List.length_take]; omega)) rfl rfl ?_
    rintro _ w2 (⟨rfl, hJy, hky⟩ | ⟨rfl, hJy⟩)
    · refine ⟨_, rfl, ?_⟩
      have hb_2 := hb_1.kp hky
      refine VY.mv (Rn.not rfl) rfl rfl rfl ?_
      refine VY.nil ?_
      refine VQ.then_code ?_
      refine VC.cond_false rfl ?_
      refine VC.skip ?_
      refine VQ.block_normal ?_
      refine VQ.then_code ?_
      refine VC.region ?_
      refine VO.mv (Rn.add rfl rfl (by rw [IntKind.wrap_i64]; omega)) rfl rfl rfl ?_
      refine VO.mv (Rn.move rfl) rfl rfl rfl ?_
      refine VO.nil ?_
      refine VQ.round (i + 1) (by first | omega | (dsimp only; omega)) ?_ ⟨rfl, rfl, rfl, rfl, rfl, trivial⟩
      exact ⟨by omega, hb_2, by rw [List.take_add_one, hy]; exact hJy⟩
    · refine ⟨_, rfl, ?_⟩
      refine VY.mv (Rn.not rfl) rfl rfl rfl ?_
      refine VY.nil ?_
      refine VQ.then_code ?_
      refine VC.cond_true rfl ?_
      refine VC.ret ?_
      refine VQ.block_ret ?_
      refine VQ.then_ret ?_
      refine VQ.then_ret ?_
      refine VQ.block_ret ?_
      refine VQ.ret0 rfl ?_
      refine Ret.mk ?_
      exact .inr ⟨_, by rw [List.length_append, List.length_take, Nat.min_eq_left (by omega)]; show _ = L.take (i + 1); rw [List.take_add_one, hy]; rfl, hJy⟩
  · skip
    refine VC.exit ?_
    refine VQ.then_exit ?_
    refine VQ.then_exit ?_
    refine VQ.block_exit ?_
    refine VQ.end0 rfl ?_
    refine Ret.mk ?_
    have : i = L.length := by omega
    subst this
    rw [List.take_length] at hJ
    exact .inl hJ

theorem names_stops (p rc : Nat) (A : Option Addr) (c : Nat) (L : List (List UInt8)) (hL : L.length ≤ 100000) (w0 : World) (bp : Bk w0 p #[.slice A L.length c] 30) (hb : Ow w0 rc 9 1 A L.length c (L.map strV)) :
    SeqStopsK Fence.wide 0 Tryz.prog 28 #[.pointer (some ⟨p, 0, none⟩)] (fun x : List UInt8 => #[strV x]) (KpR p rc) (fun xs => xs = L) (fun xs => xs = L.take xs.length) L.length w0 := by
  intro l J Jx W hW hJ hJx hY h0
  refine callsIn_wide.2 ?_
  have hb' : Bk W p #[.slice A L.length c] 30 := ⟨(hW.block p bp.lt).trans bp.blk⟩
  have hr' : Ow W rc 9 1 A L.length c (L.map strV) := hb.kp (p := p) ⟨fun x hx => (hW.block p (blk_lt hx)).trans hx, fun g _ x hx => (hW.block g (blk_lt hx)).trans hx⟩
  refine (names1 l p rc A c L hL J Jx W ?_ hb' hr' h0).mono ?_
  · intro pre x W1 hj hlen
    obtain ⟨fn, tmps, assign, body, hy, hr⟩ := hY pre x W1 hj hlen
    refine ⟨fn, tmps, assign, body, hy, hr.mono ?_⟩
    rintro e W' (⟨rfl, h3, h4⟩ | ⟨rfl, h3⟩)
    · exact .inl ⟨rfl, h3, h4⟩
    · exact .inr ⟨rfl, h3⟩
  · rintro e W' ⟨v, rfl, (h | ⟨pre, hp, h⟩)⟩
    · exact ⟨⟨_, rfl⟩, .inl ⟨L, rfl, h⟩⟩
    · exact ⟨⟨_, rfl⟩, .inr ⟨pre, hp, h⟩⟩

set_option maxHeartbeats 1000000 in
set_option maxRecDepth 100000 in
theorem law_names (mo : Nat) (q mb r : Nat) (L : List (List UInt8)) (m : List (List UInt8 × Value)) (w : World) (sr : StR w q mb r 0 mo L m) (hL : L.length ≤ 100000) (hL2 : L.length ≤ 100) :
    Calls Tryz.prog 10 #[.pointer (some ⟨q, 0, none⟩)] w (Ret (fun v w' => ∃ r' A c, v = .tuple #[.slice A L.length c, .bool true] ∧ Ow w' r' 9 1 A L.length c (L.map strV) ∧ w.heap.size < r' ∧ StR w' q mb r 0 mo L m ∧ Ch (QS q mb r) w w')) := by
  have ls := sr.lt
  refine calls_of_VCM (args := [.pointer (some ⟨q, 0, none⟩)]) Tryz.func10 rfl Tryz.ntmps10 rfl ?_
  refine VC.seq ?_
  refine VC.region ?_
  refine VO.wk (Wk.alloc Tryz.zeroValue30) rfl rfl rfl ?_
  rintro _ w1 ⟨p1, rfl, N1⟩
  have c1 := N1.ch
  have e1 := N1.p; have z1 := N1.size
  have b2 := Bk.new N1
  refine VO.wk (Wk.alloc Tryz.zeroValue4) rfl rfl rfl ?_
  rintro _ w2 ⟨p2, rfl, N2⟩
  have c2 := N2.ch
  have e2 := N2.p; have z2 := N2.size
  have b3 := Bk.new N2
  refine VO.nil ?_
  refine VQ.then_code ?_
  refine VC.seq ?_
  refine VC.region ?_
  refine VO.wk (Wk.lit0 Tryz.underlying30 inf9w26) rfl rfl rfl ?_
  rintro _ w3 ⟨p3, rfl, N3⟩
  have c3 := N3.ch
  have e3 := N3.p; have z3 := N3.size
  have l7o := Ow.of_new (cs := []) (sz := 1) (l := 0) N3 rfl (by decide)
  refine VO.wk (Wk.alloc Tryz.zeroValue30) rfl rfl rfl ?_
  rintro _ w4 ⟨p4, rfl, N4⟩
  have c4 := N4.ch
  have e4 := N4.p; have z4 := N4.size
  have b4 := Bk.new N4
  refine VO.wk0 (Wk.put Tryz.sizeOf30 rfl rfl rfl rfl b4 rfl) rfl rfl ?_
  intro _ w5 Z5
  have c5 := Z5.ch; have z5 := Z5.size
  have b4_5 := Bk.put Z5
  refine VO.nil ?_
  refine VQ.then_code ?_
  refine VC.seq ?_
  refine VC.region ?_
  refine VO.mv (Rn.move rfl) rfl rfl rfl ?_
  have cc_0_5 : Ch No w w5 := (Ch.then (E := No) (((c1.and c2).and c3).and c4) c5 (by intro q h1 h2; rcases h2 with h2 | h2 <;> first | exact h2 | (exfalso; omega)))
  have sr_5 := sr.keep cc_0_5
  refine VO.wk (Wk.call Tryz.call13 rfl (st_Names mo q mb r L m _ sr_5 (by omega))) rfl rfl rfl ?_
  rintro _ w6 ⟨pn, rc, nA, nC, rfl, bn6, cn6, ypn, yrc, yne, sr6, c6⟩
  have ls6 := sr6.lt; have lcn := cn6.lt; have lbn := bn6.lt
  have z6 := c6.size
  refine VO.mv (Rn.assign rfl) rfl rfl rfl ?_
  refine VO.nil ?_
  refine VQ.then_code ?_
  refine VC.seq ?_
  refine VC.seq ?_
  refine VC.region ?_
  refine VO.mv (Rn.move rfl) rfl rfl rfl ?_
  refine VO.mv (Rn.func_eql_nil Tryz.underlying44 rfl) rfl rfl rfl ?_
  refine VO.nil ?_
  refine VQ.then_code ?_
  refine VC.cond_false rfl ?_
  refine VC.skip ?_
  refine VQ.then_code ?_
  refine VC.seq ?_
  refine VC.seq ?_
  refine VC.region ?_
  refine VO.mv (Rn.move rfl) rfl rfl rfl ?_
  refine VO.nil ?_
  refine VQ.then_code ?_
  refine VC.block ?_
  have cc_3_5 : Ch No w3 w5 := (Ch.then (E := No) c4 c5 (by intro q h1 h2; rcases h2 with h2 | h2 <;> first | exact h2 | (exfalso; omega)))
  have l7o_5 := l7o.keep cc_3_5
  have l7o_6 := l7o_5.to c6 (by first | exact fun _ _ _ _ => id | (intro q h1 h2 hx h3; omega))
  have b4_6 := b4_5.to c6 (by first | exact id | omega)
  have lrow := l7o_6.lt; have lb4 := b4_6.lt
  refine VC.rangeFunc rfl Tryz.call28 (names_stops pn rc nA nC L (by omega) _ bn6 cn6) (fun h h' => KpR.trans h h') (KpR.putObj (B := w6.heap.size) (by omega) (by omega)) (Below.refl _ _) rfl rfl (fun pre W => ∃ ro oA oc, Bk W p1 #[.slice none 0 0] 30 ∧ Bk W p2 #[.bool false] 4 ∧ Bk W p4 #[.slice oA pre.length oc] 30 ∧ Ow W ro 9 1 oA pre.length oc (pre.map strV) ∧ (ro = (p3 + 1) ∨ w6.heap.size < ro) ∧ StR W q mb r 0 mo L m ∧ Ch (QS q mb r) w W ∧ w6.heap.size ≤ W.heap.size) (fun _ _ _ => False) ?_ (fun _ _ _ _ _ h => h.elim) ?_ ?_ ?_ (fun _ _ _ _ _ _ h => h.elim)
  · skip
    rintro s A2 W2 row ⟨ro, oA, oc, i1, i2, i3, i4, i5, i6, i7, i8⟩ hg hr
    have g := Gn.of hg hr
    exact ⟨ro, oA, oc, i1.toG g, i2.toG g, i3.toG g, i4.toG g, i5, i6.toG g (by omega), i7.toG g (by omega), Nat.le_trans i8 g.size⟩
  · skip
    have cc_1_5 : Ch No w1 w5 := (Ch.then (E := No) ((c2.and c3).and c4) c5 (by intro q h1 h2; rcases h2 with h2 | h2 <;> first | exact h2 | (exfalso; omega)))
    have b2_5 := b2.keep cc_1_5
    have b2_6 := b2_5.to c6 (by first | exact id | omega)
    have cc_2_5 : Ch No w2 w5 := (Ch.then (E := No) (c3.and c4) c5 (by intro q h1 h2; rcases h2 with h2 | h2 <;> first | exact h2 | (exfalso; omega)))
    have b3_5 := b3.keep cc_2_5
    have b3_6 := b3_5.to c6 (by first | exact id | omega)
    have CH_5 := (Ch.refl (QS q mb r) w).and cc_0_5
    have CH_6 : Ch (QS q mb r) w w6 := CH_5.then c6 (by intro q h1 h2; rcases h2 with h2 | h2 <;> first | exact h2 | (exfalso; omega) | omega)
    exact ⟨_, _, _, b2_6, b3_6, b4_6, l7o_6, .inl rfl, sr6, CH_6, Nat.le_refl _⟩
  · skip
    rintro l pre x w7 ⟨ro, oA, oc, b2_7, b3_7, b4_7, ow_7, yro, sr_7, CH_7, hsz⟩ hlen
    have owR := ow_7
    refine VC.block ?_
    refine VC.seq ?_
    refine VC.regionR rfl ?_
    refine VO.mv (Rn.load Tryz.isAgg30 rfl (b4_7.cell rfl)) rfl rfl rfl ?_
    refine VO.mv (Rn.move rfl) rfl rfl rfl ?_
    refine VO.wk (Wk.lit Tryz.underlying30 inf9w26 (by decide) rfl rfl (by rfl) (by decide) (by decide) (by rfl)) rfl rfl rfl ?_
    rintro _ w8 ⟨p8, rfl, N8⟩
    have c8 := N8.ch
    have e8 := N8.p; have z8 := N8.size
    have l16 := SlR.of_new (sz := 1) (l := 1) N8 rfl
    have l16o := Ow.of_new (sz := 1) (l := 1) N8 rfl (by decide)
    have ow_8 := ow_7.keep c8
    refine VO.wk (Wk.append (S := _) Tryz.underlying30 inf9w26 rfl (by decide) rfl rfl ow_8 l16 (by rfl) (fun h => by simp at h) (by omega) (by simp only [maxLen]; omega)) rfl rfl rfl ?_
    rintro _ w9 ⟨r9, A9, k9, rfl, o9, c9, q9⟩
    have z9 := c9.size
    have y9 := o9.lt
    have b4_8 := b4_7.keep c8
    have b4_9 := b4_8.to c9 (by first | exact id | omega)
    refine VO.wk0 (Wk.put Tryz.sizeOf30 rfl rfl rfl rfl b4_9 rfl) rfl rfl ?_
    intro _ w10 Z10
    have c10 := Z10.ch; have z10 := Z10.size
    have b4_10 := Bk.put Z10
    refine VO.nil ?_
    refine VQ.noPO ?_
    refine VQ.then_code ?_
    refine VC.seq ?_
    refine VC.regionR rfl ?_
    refine VO.mv (Rn.load Tryz.isAgg30 rfl (b4_10.cell rfl)) rfl rfl rfl ?_
    refine VO.mv (Rn.len Tryz.underlying30 rfl) rfl rfl rfl ?_
    refine VO.mv (Rn.gtr rfl rfl) rfl rfl rfl ?_
    refine VO.nil ?_
    refine VQ.noPO ?_
    refine VQ.then_code ?_
    refine VC.cond_if rfl (fun hc1 => ?_) (fun hc1 => ?_)
    · skip
      omega
    · skip
      refine VC.skip ?_
      refine VQ.block_normal ?_
      have CR_8 := (Ch.refl (fun y => y = p4 ∨ ro = y + 1) w7).and c8
      have CR_9 : Ch (fun y => y = p4 ∨ ro = y + 1) w7 w9 := CR_8.then c9 (by intro q h1 h2; rcases h2 with h2 | h2 <;> first | exact h2 | (exfalso; omega) | omega)
      have CR_10 : Ch (fun y => y = p4 ∨ ro = y + 1) w7 w10 := CR_9.then c10 (by intro q h1 h2; rcases h2 with h2 | h2 <;> first | exact h2 | (exfalso; omega) | omega)
      refine VQ.roundC CR_10 (fun y hy => by rcases hy with hy | hy; (left; omega); (right; exact owR.isC y hy)) (KpR.of CR_10 (by intro y h1 h2; rcases h1 with h1 | h1 <;> rcases h2 with h2 | h2 <;> omega)) ?_
      have hl9 : (pre ++ [x]).length = pre.length + 1 := by simp
      have b2_8 := b2_7.keep c8
      have b2_9 := b2_8.to c9 (by first | exact id | omega)
      have b2_10 := b2_9.to c10 (by first | exact id | omega)
      have b3_8 := b3_7.keep c8
      have b3_9 := b3_8.to c9 (by first | exact id | omega)
      have b3_10 := b3_9.to c10 (by first | exact id | omega)
      have ow_10 := o9.to c10 (by first | exact fun _ _ _ _ => id | (intro q h1 h2 hx h3; omega))
      have sr_8 := sr_7.keep c8
      have sr_9 := sr_8.to c9 (by first | exact fun _ _ _ _ => id | (intro q h1 h2 hx h3; omega))
      have sr_10 := sr_9.to c10 (by first | exact fun _ _ _ _ => id | (intro q h1 h2 hx h3; omega))
      have CH_8 := CH_7.and c8
      have CH_9 : Ch (QS q mb r) w w9 := CH_8.then c9 (by intro q h1 h2; rcases h2 with h2 | h2 <;> first | exact h2 | (exfalso; omega) | omega)
      have CH_10 : Ch (QS q mb r) w w10 := CH_9.then c10 (by intro q h1 h2; rcases h2 with h2 | h2 <;> first | exact h2 | (exfalso; omega) | omega)
      exact ⟨r9, A9, k9, b2_10, b3_10, by rw [hl9]; exact b4_10, (ow_10).to' hl9.symm (by simp [flat, Value.cells]), by omega, sr_10, CH_10, by omega⟩
  rintro D xs w11 hD hS ⟨ro, oA, oc, b2_11, b3_11, b4_11, ow_11, yro, sr_11, CH_11, hsz⟩ hK
  have df_11 : Df w11 D := ⟨hK⟩
  subst hS
  refine VQ.block_normal ?_
  refine VQ.then_code ?_
  refine VC.seq ?_
  refine VC.region ?_
  refine VO.mv (Rn.load Tryz.isAgg30 rfl (b4_11.cell rfl)) rfl rfl rfl ?_
  refine VO.wk0 (Wk.put Tryz.sizeOf30 rfl rfl rfl rfl b2_11 rfl) rfl rfl ?_
  intro _ w12 Z12
  have c12 := Z12.ch; have z12 := Z12.size
  have b2_12 := Bk.put Z12
  have b3_12 := b3_11.to c12 (by first | exact id | omega)
  refine VO.wk0 (Wk.put Tryz.sizeOf4 rfl rfl rfl rfl b3_12 rfl) rfl rfl ?_
  intro _ w13 Z13
  have c13 := Z13.ch; have z13 := Z13.size
  have b3_13 := Bk.put Z13
  refine VO.nil ?_
  refine VQ.then_code ?_
  refine VC.ret ?_
  have df_12 := df_11.to c12 (by first | exact id | omega)
  have df_13 := df_12.to c13 (by first | exact id | omega)
  refine VQ.dropD df_13.blk ?_
  intro w14 W14
  have g14 : Gn w6.heap.size w13 w14 := by rw [W14]; exact Gn.put df_13.blk hD
  have z14 := g14.size
  refine VQ.toM ?_
  have b2_13 := b2_12.to c13 (by first | exact id | omega)
  have b2_14 := b2_13.toG g14
  have b3_14 := b3_13.toG g14
  refine VQ.retcc rfl rfl rfl Tryz.isAgg30 Tryz.isAgg4 (b2_14.cell rfl) (b3_14.cell rfl) ?_
  refine Ret.mk ?_
  have ow_12 := ow_11.to c12 (by first | exact fun _ _ _ _ => id | (intro q h1 h2 hx h3; omega))
  have ow_13 := ow_12.to c13 (by first | exact fun _ _ _ _ => id | (intro q h1 h2 hx h3; omega))
  have ow_14 := ow_13.toG g14
  have sr_12 := sr_11.to c12 (by first | exact fun _ _ _ _ => id | (intro q h1 h2 hx h3; omega))
  have sr_13 := sr_12.to c13 (by first | exact fun _ _ _ _ => id | (intro q h1 h2 hx h3; omega))
  have sr_14 := sr_13.toG g14 (by omega)
  have CH_12 : Ch (QS q mb r) w w12 := CH_11.then c12 (by intro q h1 h2; rcases h2 with h2 | h2 <;> first | exact h2 | (exfalso; omega) | omega)
  have CH_13 : Ch (QS q mb r) w w13 := CH_12.then c13 (by intro q h1 h2; rcases h2 with h2 | h2 <;> first | exact h2 | (exfalso; omega) | omega)
  have CH_14 := CH_13.toG g14 (by omega)
  exact ⟨ro, oA, oc, rfl, ow_14, by omega, sr_14, CH_14⟩

end Go.Tm
