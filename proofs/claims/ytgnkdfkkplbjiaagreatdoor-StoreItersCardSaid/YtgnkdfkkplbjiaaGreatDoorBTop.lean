/- The law StoreIters of going over a store's names: for all slices of operations and every number the call returns true and what came in reads as it did. The row and its tied card. Conditions: those of the given statement alone. -/
import Derived.Test.YtgnkdfkkplbjiaaGreatDoorB14
import Derived.Test.YtgnkdfkkplbjiaaGreatDoorB17
import Derived.SizedLaws
import Derived.Test.YtgnkdfkkplbjiaaGreatDoorRows
import Derived.Test.YtgnkdfkkplbjiaaGreatDoorTie
import Derived.Test.YtgnkdfkkplbjiaaGreatDoorCards
import Derived.ProofKit
import Derived.LaidMore
import Derived.OpenShut
import Derived.Stop.Joined
import Derived.WideKeyArgs
import Derived.SevenTiedAt
set_option linter.all false
namespace Go.Proofs.YtgnkdfkkplbjiaaGreatDoor
open Go.ChangeShapes Go.WideShapes Go.ChangeAt Go.RowKit Go.Tm
theorem ownKnobs : ownKnob Tryz.prog.godebug = none := by kernel_rfl
theorem laidOutP : laidOutB Tryz.prog = true := by kernel_rfl
theorem doorMet (os : Os) (args : Array Value) : laidMetH Tryz.prog laidL ((World.doorLaid Tryz.prog 402 os).forCall (fun _ _ => 0) ⟨#[], args, []⟩).memory :=
  laidMetH_of_parts3 (fuel := 8) (laidMet_of_run' 8 (by kernel_rfl) (by kernel_rfl)) (by kernel_rfl) (by kernel_rfl)
theorem since_of {w w' : World} (c : Ch No w w') : w.Since w.heap.size w' :=
  ⟨c.os, c.tape, c.output, c.size, fun k hk => by rw [c.old k _ (fun h => h) (Array.getElem?_eq_getElem hk), Array.getElem?_eq_getElem hk]⟩
theorem ops_data {H : Type} {enc : TypeId × Value → H} {P : Program} {W : World} {base : Nat} {sp : Nat → Bool} {held : Bool} {t e : TypeId} {A : Option Addr} {l c : Nat} {d : DataW H} {p : List MemPlace} (ht : P.underlying t = some (.slice e)) (h : DataW.Trod enc P W base sp held t (.slice A l c) d p) :
    l = 0 ∨ ∃ elems rest, d = .slice elems rest ∧ elems.length = l := by
  obtain ⟨fuel, hf⟩ := h
  rcases DataW.trod_slice ht hf with ⟨h0, _⟩ | ⟨a, len, cap, elems, rest, n, _, h0, hx, _, _, _, hl, _⟩
  · simp only [Value.cells, List.cons.injEq, Value.slice.injEq, and_true] at h0
    exact .inl h0.2.1
  · simp only [Value.cells, List.cons.injEq, Value.slice.injEq, and_true] at h0
    simp only [Prod.mk.injEq] at hx
    exact .inr ⟨_, _, hx.1, by rw [List.length_map, hl, h0.2.1]⟩
theorem ops_len {H : Type} {ts : List TypeId} {ds : List (DataW H)} (hsz : (DataW.weightsEach Tryz.prog ts ds).all (· ≤ reachBytes) = true) {j l : Nat} {d : DataW H} (ht : ts[j]? = some 22) (hd : ds[j]? = some d) (h : l = 0 ∨ ∃ elems rest, d = .slice elems rest ∧ elems.length = l) : l ≤ 140737488355328 := by
  rcases h with h | ⟨elems, rest, rfl, rfl⟩
  · omega
  · have := sized_slice hsz ht hd Tryz.underlying22
    rw [show Tryz.prog.bytesOf 32 = 40 by kernel_rfl] at this
    simp only [reachBytes] at this
    omega
set_option maxRecDepth 100000 in
theorem storeIters_lifted (os : Os) (started : os.Started) (H : Type) (enc : TypeId × Value → H) :
    ReturnsInHanded {} Tryz.checked os 4 .any (fun w args => (Rows.storeItersSpec.pre enc Tryz.prog Tryz.f4 [] false w args ∧ laidMetH Tryz.prog laidL w) ∧ sizedMet enc Tryz.prog Tryz.f4 (OpenSpec.ofChange Rows.storeItersSpec) false w args)
      (Rows.storeItersSpec.post enc Tryz.prog Tryz.f4 false true false false) := by
  refine returnsInHanded_of_change_and (C := Tryz.checked) (X := fun w _ => laidMetH Tryz.prog laidL w) (fun _ _ _ hh h => h.of_heap hh) ownKnobs started (by kernel_rfl) Tryz.func4
    (ChangeSpec.witness_shaped (enc := enc) (C := Tryz.checked) (os := os) (X := fun w _ => laidMetH Tryz.prog laidL w) false (World.doorLaid Tryz.prog 402 os) #[.slice none 0 0, .slice none 0 0, .int .i64 0] 8 rfl (World.shaped_of_RefB (by kernel_rfl) (by kernel_rfl)) (by kernel_rfl) (by kernel_rfl) (by kernel_rfl) (doorMet os _)) ?_
  intro W base args ds gs before hval0 hW _ hsz hL _
  have hval : ∀ (j : Nat) t v, Tryz.f4.params[j]? = some t → args[j]? = some v → Value.okWide Tryz.prog W .any base t v := hval0
  have hW' := hW
  obtain ⟨p, q, hA0, hV, rfl, hfz, hnd⟩ := hW
  have hA : DataW.TrodAll enc Tryz.prog W 0 (fun _ => true) true Tryz.f4.params.toList args.toList ds p := hA0
  rw [Tryz.params4] at hA hval
  obtain ⟨v0, v1, v2, d0, d1, d2, p0, p1, p2, rfl, rfl, rfl, h0, h1, h2⟩ := trodAll_three hA
  obtain ⟨rfl, rfl⟩ := trodVars_none hV
  have hv0 := hval 0 22 v0 rfl rfl
  have hv1 := hval 1 22 v1 rfl rfl
  obtain ⟨M, rfl, rfl, rfl, hwM⟩ := open_int Tryz.underlying3 (hval 2 3 v2 rfl rfl) h2
  obtain ⟨A, c, SC, rfl, sc, _⟩ := open_ops hv0 h0
  obtain ⟨AT, cT, LT, rfl, lt, _⟩ := open_ops hv1 h1
  have hlen := ops_len hsz (j := 0) (by rw [show Tryz.f4.params.toList = [22, 22, 3] by rw [Tryz.params4]]; rfl) rfl (ops_data Tryz.underlying22 h0)
  have hlen2 := ops_len hsz (j := 1) (by rw [show Tryz.f4.params.toList = [22, 22, 3] by rw [Tryz.params4]]; rfl) rfl (ops_data Tryz.underlying22 h1)
  rw [MakeChecks.laidMetH_plain _ _ _ (by kernel_rfl)] at hL
  have hgn := gn_of hL
  obtain ⟨E, er⟩ := errT_of hL hgn
  have st := st_of hL
  have tab := tab_of hL hgn
  have hlt0 : ∀ x ∈ p0, x.block < W.heap.size := fun x hx => hW'.lt x (by simp [hx])
  have hlt1 : ∀ x ∈ p1, x.block < W.heap.size := fun x hx => hW'.lt x (by simp [hx])
  refine (storeIters SC LT M (· < W.heap.size) A AT c cT W.heap.size E W sc lt (fun _ h => h) hlen hlen2 er (Nat.le_refl _) st tab).mono ?_
  rintro e W' ⟨v, rfl, rfl, ch⟩
  have hs := since_of ch
  have e1 : Rows.storeItersSpec.fn H ([d0, d1, .lit (.int .i64 M)] ++ []) = { results := [.lit (.bool true)], args := [d0, d1, .lit (.int .i64 M)] } := by simp [Rows.storeItersSpec]
  have hstay : ∀ {v : Value} {d : DataW H} {p : List MemPlace}, DataW.Trod enc Tryz.prog W 0 (fun _ => true) true 22 v d p → (∀ x ∈ p, x.block < W.heap.size) → DataW.Trod enc Tryz.prog W' 0 (fun b => decide (b < W.heap.size)) true 22 v d p :=
    fun h hl => WideElems.Trod_stays laidOutP (by kernel_rfl) (of_decide_eq_true (by kernel_rfl)) h (fun x hx => hs.sameAt (hl x hx)) (fun x hx => by simpa using hl x hx)
  refine ⟨_, rfl, _, _, _, [], (p0 ++ (p1 ++ [])), [], hW', ?_, ?_, ?_, hs.frame _, fun h => by cases h⟩
  · rw [e1]; exact trodAll_mk1 (shut_bool Tryz.underlying4 true)
  · rw [e1]; exact trodAll_mk3 (hstay h0 hlt0) (hstay h1 hlt1) (shut_int Tryz.underlying3 hwM)
  · rw [e1]; rfl
theorem storeIters_row : Rows.StoreItersSaid :=
  OpenClaim.holds_of_wide 4 Tryz.f4 rfl rfl rfl rfl rfl rfl rfl ⟨rfl, rfl, rfl, rfl, rfl⟩ rfl rfl rfl rfl rfl (by kernel_rfl) Tryz.func4 (by kernel_rfl)
    (of_decide_eq_true (by kernel_rfl)) (by unfold Func.isWrapper; first | (rw [if_pos (by decide +kernel)]; kernel_rfl) | (rw [if_neg (by decide +kernel)]; exact ⟨rfl, rfl⟩))
    (fun os started H enc _ => storeIters_lifted os started H enc)
theorem storeIters_holds : Rows.StoreItersCardSaid :=
  Claim7.holds_tied_plain_at .later [] [.data, .data, .data, .sentinel, .sentinel, .sentinel, .sentinel, .sentinel, .sentinel, .sentinel, .sentinel, .sentinel, .sentinel, .sentinel, .sentinel, .sentinel, .sentinel, .sentinel, .sentinel, .sentinel, .sentinel, .sentinel, .data] true (true, "897429ef92bb7b363ad0e8b2b811a30a4287a47d0d2e7dce30d7829bdb9cc35c") true
    storeIters_row (fun _ h => by cases h) (by kernel_rfl) (fun _ h => by cases h) storeIters_row_tie rfl ⟨rfl, rfl⟩ (by kernel_rfl) rfl
    (fun f fn hf hfn => by
      obtain rfl : f = 4 := Option.some.inj ((show Tryz.prog.funcNamed "timbre/timbrelaw29.StoreIters" = some 4 by kernel_rfl).symm.trans hf) |>.symm
      obtain rfl : fn = Tryz.f4 := (Option.some.inj (Tryz.func4.symm.trans hfn)).symm
      exact ⟨by kernel_rfl, fun j t ht => by
        rw [Tryz.params4] at ht
        have hm : t ∈ [22, 22, 3] := by simpa using Array.mem_of_getElem? ht
        have hall : ([22, 22, 3].all fun u => !Tryz.prog.wantsStandIn u) = true := by kernel_rfl
        exact (show Tryz.prog.wantsStandIn t = false by simpa using List.all_eq_true.1 hall t hm)⟩)
    (by kernel_rfl)
#print axioms storeIters_holds
end Go.Proofs.YtgnkdfkkplbjiaaGreatDoor
