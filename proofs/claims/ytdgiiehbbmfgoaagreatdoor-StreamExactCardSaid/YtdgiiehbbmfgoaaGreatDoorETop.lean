/- The law StreamExact: for all lists of whole numbers the call returns true and what came in reads as it did. The row and its tied card. Conditions: those of the given statement alone. -/
import Derived.Test.YtdgiiehbbmfgoaaGreatDoorE17
import Derived.SizedLaws
import Derived.Test.YtdgiiehbbmfgoaaGreatDoorRows
import Derived.Test.YtdgiiehbbmfgoaaGreatDoorTie
import Derived.Test.YtdgiiehbbmfgoaaGreatDoorCards
import Derived.ProofKit
import Derived.LaidMore
import Derived.OpenShut
import Derived.Stop.Joined
import Derived.WideKeyArgs
import Derived.SevenTiedAt
set_option linter.all false
namespace Go.Proofs.YtdgiiehbbmfgoaaGreatDoor
open Go.ChangeShapes Go.WideShapes Go.ChangeAt Go.RowKit Go.Tm
theorem ownKnobs : ownKnob Tryz.prog.godebug = none := by kernel_rfl
theorem laidOutP : laidOutB Tryz.prog = true := by kernel_rfl
theorem doorMet (os : Os) (args : Array Value) : laidMetH Tryz.prog laidL ((World.doorLaid Tryz.prog 270 os).forCall (fun _ _ => 0) ⟨#[], args, []⟩).memory :=
  laidMetH_of_parts3 (fuel := 8) (laidMet_of_run' 8 (by kernel_rfl) (by kernel_rfl)) (by kernel_rfl) (by kernel_rfl)
theorem since_of {w w' : World} (c : Ch No w w') : w.Since w.heap.size w' :=
  ⟨c.os, c.tape, c.output, c.size, fun k hk => by rw [c.old k _ (fun h => h) (Array.getElem?_eq_getElem hk), Array.getElem?_eq_getElem hk]⟩
set_option maxRecDepth 100000 in
theorem open_intsZ {H : Type} {enc : TypeId × Value → H} {W : World} {base : Nat} {sp : Nat → Bool} {held : Bool} {v : Value} {d : DataW H} {p : List MemPlace} {b0 : Nat} (hv : Value.okWide Tryz.prog W .any b0 36 v) (h : DataW.Trod enc Tryz.prog W base sp held 36 v d p) :
    ∃ (A : Option Addr) (l c : Nat) (zs : List Int), v = .slice A l c ∧ SlR (· < W.heap.size) W A l 1 (zs.map IV) ∧ l ≤ c ∧ l ≤ 9223372036854775807 := by
  obtain ⟨A, l, c, rfl⟩ := okWide_slice Tryz.underlying36 hv
  obtain ⟨fuel, hf⟩ := h
  rcases open_ints Tryz.underlying36 Tryz.underlying3 (by kernel_rfl) hf with ⟨h0, _⟩ | ⟨a, len, cap, zs, h0, _, hl, hm, hlen, _, hc, hwf⟩
  · simp only [Value.cells, List.cons.injEq, Value.slice.injEq, and_true] at h0
    obtain ⟨rfl, rfl, rfl⟩ := h0
    exact ⟨none, 0, 0, [], rfl, SlR.nil _ _ _, Nat.le_refl _, by decide⟩
  · simp only [Value.cells, List.cons.injEq, Value.slice.injEq, and_true] at h0
    obtain ⟨rfl, rfl, rfl⟩ := h0
    have hblk : a.block < W.heap.size := by
      simp only [Value.okWide, Tryz.underlying36, Cell.okWide, Cell.ok] at hv
      obtain ⟨_, _, _, _, row, cells, hs, _⟩ := hv
      unfold World.shape? at hs
      split at hs
      · rename_i hx; exact blk_lt hx
      · cases hs
    have hzl : l ≤ zs.length := by rw [hlen]; split <;> omega
    refine ⟨some a, l, c, zs.take l, rfl, ⟨by simp; omega, fun _ => ⟨a, rfl⟩, fun ad had => ?_, fun ad had => ?_⟩, hl, by simp only [maxLen] at hm; omega⟩
    · cases had
      intro j u hj
      rw [List.getElem?_map, List.getElem?_take] at hj
      split at hj
      · rename_i hjl
        have h1 := hc j (by omega)
        rw [h1]
        simp only [List.getD]
        cases hz : zs[j]? with
        | none => rw [hz] at hj; cases hj
        | some z => rw [hz] at hj; exact hj
      · cases hj
    · cases had
      exact hblk
set_option maxRecDepth 100000 in
theorem streamExact_lifted (os : Os) (started : os.Started) (H : Type) (enc : TypeId × Value → H) :
    ReturnsInHanded {} Tryz.checked os 7 .any (fun w args => (Rows.streamExactSpec.pre enc Tryz.prog Tryz.f7 [] false w args ∧ laidMetH Tryz.prog laidL w) ∧ sizedMet enc Tryz.prog Tryz.f7 (OpenSpec.ofChange Rows.streamExactSpec) false w args)
      (Rows.streamExactSpec.post enc Tryz.prog Tryz.f7 false true false false) := by
  refine returnsInHanded_of_change_and (C := Tryz.checked) (X := fun w _ => laidMetH Tryz.prog laidL w) (fun _ _ _ hh h => h.of_heap hh) ownKnobs started (by kernel_rfl) Tryz.func7
    (ChangeSpec.witness_shaped (enc := enc) (C := Tryz.checked) (os := os) (X := fun w _ => laidMetH Tryz.prog laidL w) false (World.doorLaid Tryz.prog 270 os) #[.slice none 0 0, .slice none 0 0, .int .i64 0] 8 rfl (World.shaped_of_RefB (by kernel_rfl) (by kernel_rfl)) (by kernel_rfl) (by kernel_rfl) (by kernel_rfl) (doorMet os _)) ?_
  intro W base args ds gs before hval0 hW _ hsz hL _
  have hval : ∀ (j : Nat) t v, Tryz.f7.params[j]? = some t → args[j]? = some v → Value.okWide Tryz.prog W .any base t v := hval0
  have hW' := hW
  obtain ⟨p, q, hA0, hV, rfl, hfz, hnd⟩ := hW
  have hA : DataW.TrodAll enc Tryz.prog W 0 (fun _ => true) true Tryz.f7.params.toList args.toList ds p := hA0
  rw [Tryz.params7] at hA hval
  obtain ⟨v0, v1, v2, d0, d1, d2, p0, p1, p2, rfl, rfl, rfl, h0, h1, h2⟩ := trodAll_three hA
  obtain ⟨rfl, rfl⟩ := trodVars_none hV
  have hv0 := hval 0 36 v0 rfl rfl
  have hv1 := hval 1 36 v1 rfl rfl
  obtain ⟨A, l, c, ls, rfl, sx, hc1, hl1⟩ := open_intsZ hv0 h0
  obtain ⟨A2, l2, c2, qs, rfl, sy, hc2, hl2⟩ := open_intsZ hv1 h1
  obtain ⟨b, rfl, rfl, rfl, hwb⟩ := open_int Tryz.underlying3 (hval 2 3 v2 rfl rfl) h2
  rw [MakeChecks.laidMetH_plain _ _ _ (by kernel_rfl)] at hL
  have hgn := gn_of hL
  have st := st_of hL
  have tab := tab_of hL hgn
  have hlt0 : ∀ x ∈ p0, x.block < W.heap.size := fun x hx => hW'.lt x (by simp [hx])
  have hlt1 : ∀ x ∈ p1, x.block < W.heap.size := fun x hx => hW'.lt x (by simp [hx])
  refine (law_StreamExact (· < W.heap.size) A A2 b l l2 c c2 ls qs W sx sy (fun _ h => h) hl1 hl2 hc1 hc2 st tab hgn).mono ?_
  rintro e W' ⟨v, rfl, rfl, ch⟩
  have hs := since_of ch
  have e1 : Rows.streamExactSpec.fn H ([d0, d1, .lit (.int .i64 b)] ++ []) = { results := [.lit (.bool true)], args := [d0, d1, .lit (.int .i64 b)] } := by simp [Rows.streamExactSpec]
  have hstay : ∀ {v : Value} {d : DataW H} {p : List MemPlace}, DataW.Trod enc Tryz.prog W 0 (fun _ => true) true 36 v d p → (∀ x ∈ p, x.block < W.heap.size) → DataW.Trod enc Tryz.prog W' 0 (fun b => decide (b < W.heap.size)) true 36 v d p :=
    fun h hl => WideElems.Trod_stays laidOutP (by kernel_rfl) (of_decide_eq_true (by kernel_rfl)) h (fun x hx => hs.sameAt (hl x hx)) (fun x hx => by simpa using hl x hx)
  refine ⟨_, rfl, _, _, _, [], (p0 ++ (p1 ++ [])), [], hW', ?_, ?_, ?_, hs.frame _, fun h => by cases h⟩
  · rw [e1]; exact trodAll_mk1 (shut_bool Tryz.underlying4 true)
  · rw [e1]; exact trodAll_mk3 (hstay h0 hlt0) (hstay h1 hlt1) (shut_int Tryz.underlying3 hwb)
  · rw [e1]; rfl
theorem streamExact_row : Rows.StreamExactSaid :=
  OpenClaim.holds_of_wide 7 Tryz.f7 rfl rfl rfl rfl rfl rfl rfl ⟨rfl, rfl, rfl, rfl, rfl⟩ rfl rfl rfl rfl rfl (by kernel_rfl) Tryz.func7 (by kernel_rfl)
    (of_decide_eq_true (by kernel_rfl)) (by unfold Func.isWrapper; first | (rw [if_pos (by decide +kernel)]; kernel_rfl) | (rw [if_neg (by decide +kernel)]; exact ⟨rfl, rfl⟩))
    (fun os started H enc _ => streamExact_lifted os started H enc)
theorem streamExact_holds : Rows.StreamExactCardSaid :=
  Claim7.holds_tied_plain_at .later [] [.data, .data, .data, .sentinel, .sentinel, .sentinel, .sentinel, .sentinel, .sentinel, .sentinel, .data] true (true, "b79cdafb1a9280678e4abc6a464768ee4ca96b4a105ef1e3468681aa4a4a74cc") true
    streamExact_row (fun _ h => by cases h) (by kernel_rfl) (fun _ h => by cases h) streamExact_row_tie rfl ⟨rfl, rfl⟩ (by kernel_rfl) rfl
    (fun f fn hf hfn => by
      obtain rfl : f = 7 := Option.some.inj ((show Tryz.prog.funcNamed "timbre/timbrelaw28.StreamExact" = some 7 by kernel_rfl).symm.trans hf) |>.symm
      obtain rfl : fn = Tryz.f7 := (Option.some.inj (Tryz.func7.symm.trans hfn)).symm
      exact ⟨by kernel_rfl, fun j t ht => by
        rw [Tryz.params7] at ht
        have hm : t ∈ [36, 36, 3] := by simpa using Array.mem_of_getElem? ht
        have hall : ([36, 36, 3].all fun u => !Tryz.prog.wantsStandIn u) = true := by kernel_rfl
        exact (show Tryz.prog.wantsStandIn t = false by simpa using List.all_eq_true.1 hall t hm)⟩)
    (by kernel_rfl)
#print axioms streamExact_holds
end Go.Proofs.YtdgiiehbbmfgoaaGreatDoor
