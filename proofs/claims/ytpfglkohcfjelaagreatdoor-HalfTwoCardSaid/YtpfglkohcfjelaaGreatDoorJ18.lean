/- Lemmas of this claim, joined by program. The law HalfTwo: for all bits the call returns true and what came in reads as it did. The call, lifted. Conditions: those of the given statement alone. Conditions: each lemma names its own. -/
import Derived.Test.YtpfglkohcfjelaaGreatDoorJ17
import Derived.SizedLaws
import Derived.Test.YtpfglkohcfjelaaGreatDoorRows
import Derived.Test.YtpfglkohcfjelaaGreatDoorTie
import Derived.Test.YtpfglkohcfjelaaGreatDoorCards
import Derived.ProofKit
import Derived.LaidMore
import Derived.OpenShut
import Derived.Stop.Joined
import Derived.WideKeyArgs
import Derived.SevenTiedAt
set_option linter.all false
namespace Go.Proofs.YtpfglkohcfjelaaGreatDoor
set_option maxRecDepth 100000
open Go.ChangeShapes Go.WideShapes Go.ChangeAt Go.RowKit Go.Tm
theorem ownKnobs : ownKnob Tryz.prog.godebug = none := by kernel_rfl
theorem laidOutP : laidOutB Tryz.prog = true := by kernel_rfl
theorem doorMet (os : Os) (args : Array Value) : laidMetH Tryz.prog laidL ((World.doorLaid Tryz.prog 402 os).forCall (fun _ _ => 0) ⟨#[], args, []⟩).memory :=
 laidMetH_of_parts3 (fuel := 8) (laidMet_of_run' 8 (by kernel_rfl) (by kernel_rfl)) (by kernel_rfl) (by kernel_rfl)
theorem since_of {w w' : World} (c : Ch No w w') : w.Since w.heap.size w' :=
 ⟨c.os, c.tape, c.output, c.size, fun k hk => by rw [c.old k _ (fun h => h) (Array.getElem?_eq_getElem hk), Array.getElem?_eq_getElem hk]⟩
theorem u64_wf {n : Int} (h : (Lit.int .u64 n).wf = true) : 0 ≤ n ∧ n < 18446744073709551616 := by
 have h1 : IntKind.u64.min = 0 := rfl
 have h2 : IntKind.u64.max = 18446744073709551615 := rfl
 simp [Lit.wf, IntKind.wrap] at h
 omega
theorem row_data {H : Type} {enc : TypeId × Value → H} {P : Program} {W : World} {base : Nat} {sp : Nat → Bool} {held : Bool} {t e : TypeId} {A : Option Addr} {l c : Nat} {d : DataW H} {p : List MemPlace} (ht : P.underlying t = some (.slice e)) (h : DataW.Trod enc P W base sp held t (.slice A l c) d p) :
  l = 0 ∨ ∃ elems rest, d = .slice elems rest ∧ elems.length = l := by
 obtain ⟨fuel, hf⟩ := h
 rcases DataW.trod_slice ht hf with ⟨h0, _⟩ | ⟨a, len, cap, elems, rest, n, _, h0, hx, _, _, _, hl, _⟩
 ·
  simp only [Value.cells, List.cons.injEq, Value.slice.injEq, and_true] at h0
  exact .inl h0.2.1
 ·
  simp only [Value.cells, List.cons.injEq, Value.slice.injEq, and_true] at h0
  simp only [Prod.mk.injEq] at hx
  exact .inr ⟨_, _, hx.1, by rw [List.length_map, hl, h0.2.1]⟩
theorem u64s_len {H : Type} {ts : List TypeId} {ds : List (DataW H)} (hsz : (DataW.weightsEach Tryz.prog ts ds).all (· ≤ reachBytes) = true) {j l : Nat} {d : DataW H} (ht : ts[j]? = some 22) (hd : ds[j]? = some d) (h : l = 0 ∨ ∃ elems rest, d = .slice elems rest ∧ elems.length = l) : l ≤ 17592186044404 := by
 rcases h with h | ⟨elems, rest, rfl, rfl⟩
 · omega
 ·
  have := sized_slice hsz ht hd υ22
  rw [show Tryz.prog.bytesOf 74 = 8 by kernel_rfl] at this
  simp only [reachBytes] at this
  omega
theorem open_u64s {H : Type} {enc : TypeId × Value → H} {W : World} {base : Nat} {sp : Nat → Bool} {held : Bool} {v : Value} {d : DataW H} {p : List MemPlace} {b0 : Nat} (hv : Value.okWide Tryz.prog W .any b0 22 v) (h : DataW.Trod enc Tryz.prog W base sp held 22 v d p) :
  ∃ (A : Option Addr) (l c : Nat) (zs : List Int), v = .slice A l c ∧ SlR (· < W.heap.size) W A l 1 (zs.map UV) ∧ ∀ z ∈ zs, 0 ≤ z ∧ z < 18446744073709551616 := by
 obtain ⟨A, l, c, rfl⟩ := okWide_slice υ22 hv
 obtain ⟨fuel, hf⟩ := h
 rcases open_ints υ22 υ74 (by kernel_rfl) hf with ⟨h0, _⟩ | ⟨a, len, cap, zs, h0, _, hl, hm, hlen, _, hc, hwf⟩
 ·
  simp only [Value.cells, List.cons.injEq, Value.slice.injEq, and_true] at h0
  obtain ⟨rfl, rfl, rfl⟩ := h0
  exact ⟨none, 0, 0, [], O, SlR.nil _ _ _, fun z hz => absurd hz List.not_mem_nil⟩
 ·
  simp only [Value.cells, List.cons.injEq, Value.slice.injEq, and_true] at h0
  obtain ⟨rfl, rfl, rfl⟩ := h0
  have hblk : a.block < W.heap.size := by
   simp only [Value.okWide, υ22, Cell.okWide, Cell.ok] at hv
   obtain ⟨_, _, _, _, row, cells, hs, _⟩ := hv
   unfold World.shape? at hs
   split at hs
   · rename_i hx; exact blk_lt hx
   · cases hs
  have hzl : l ≤ zs.length := by rw [hlen]; split <;> omega
  refine ⟨some a, l, c, zs.take l, O, ⟨by simp; omega, fun _ => ⟨a, O⟩, fun ad had => ?_, fun ad had => ?_⟩, fun z hz => u64_wf (hwf z (List.mem_of_mem_take hz))⟩
  ·
   cases had
   intro j u hj
   rw [List.getElem?_map, List.getElem?_take] at hj
   split at hj
   ·
    rename_i hjl
    have h1 := hc j (by omega)
    rw [h1]
    simp only [List.getD]
    cases hz : zs[j]? with
    | none => rw [hz] at hj; cases hj
    | some z => rw [hz] at hj; exact hj
   · cases hj
  ·
   cases had
   exact hblk
theorem halfTwo_lifted (os : Os) (started : os.Started) (H : Type) (enc : TypeId × Value → H) :
  ReturnsInHanded {} Tryz.checked os 10 .any (fun w args => (Rows.halfTwoSpec.pre enc Tryz.prog Tryz.f10 [] false w args ∧ laidMetH Tryz.prog laidL w) ∧ sizedMet enc Tryz.prog Tryz.f10 (OpenSpec.ofChange Rows.halfTwoSpec) false w args)
   (Rows.halfTwoSpec.post enc Tryz.prog Tryz.f10 false true false false) := by
 refine returnsInHanded_of_change_and (C := Tryz.checked) (X := fun w _ => laidMetH Tryz.prog laidL w) (fun _ _ _ hh h => h.of_heap hh) ownKnobs started (by kernel_rfl) Tryz.func10
  (ChangeSpec.witness_shaped (enc := enc) (C := Tryz.checked) (os := os) (X := fun w _ => laidMetH Tryz.prog laidL w) false (World.doorLaid Tryz.prog 402 os) #[.slice none 0 0, .slice none 0 0] 8 rfl (World.shaped_of_RefB (by kernel_rfl) (by kernel_rfl)) (by kernel_rfl) (by kernel_rfl) (by kernel_rfl) (doorMet os _)) ?_
 intro W base args ds gs before hval0 hW _ hsz hL _
 have hval : ∀ (j : Nat) t v, Tryz.f10.params[j]? = some t → args[j]? = some v → Value.okWide Tryz.prog W .any base t v := hval0
 have hW' := hW
 obtain ⟨p, q, hA0, hV, rfl, hfz, hnd⟩ := hW
 have hA : DataW.TrodAll enc Tryz.prog W 0 (fun _ => true) true Tryz.f10.params.toList args.toList ds p := hA0
 rw [Tryz.params10] at hA hval
 obtain ⟨v0, v1, d0, d1, p0, p1, rfl, rfl, rfl, h0, h1⟩ := trodAll_two hA
 obtain ⟨rfl, rfl⟩ := trodVars_none hV
 have hv0 := hval 0 22 v0 rfl rfl
 have hv1 := hval 1 22 v1 rfl rfl
 obtain ⟨A, l, c, bs, rfl, sx, hbs⟩ := open_u64s hv0 h0
 obtain ⟨A2, l2, c2, es, rfl, sy, hes⟩ := open_u64s hv1 h1
 have hps : Tryz.f10.params.toList = [22, 22] := by rw [Tryz.params10]
 have hlen := u64s_len hsz (j := 0) (by rw [hps]; rfl) rfl (row_data υ22 h0)
 have hlen2 := u64s_len hsz (j := 1) (by rw [hps]; rfl) rfl (row_data υ22 h1)
 rw [MakeChecks.laidMetH_plain _ _ _ (by kernel_rfl)] at hL
 have hgn := gn_of hL
 have st := st_of hL
 have tab := tab_of hL hgn
 obtain ⟨E, er⟩ := errT_of hL hgn
 have hlt0 : ∀ x ∈ p0, x.block < W.heap.size := fun x hx => hW'.lt x (by simp [hx])
 have hlt1 : ∀ x ∈ p1, x.block < W.heap.size := fun x hx => hW'.lt x (by simp [hx])
 refine (law_HT (· < W.heap.size) A l c bs A2 l2 c2 es W sx sy (fun _ h => h) hlen hlen2 _ E (Nat.le_refl _) er st tab hgn).mono ?_
 rintro e W' ⟨v, rfl, rfl, ch⟩
 have hs := since_of ch
 have e1 : Rows.halfTwoSpec.fn H ([d0, d1] ++ []) = { results := [.lit (.bool true)], args := [d0, d1] } := by simp [Rows.halfTwoSpec]
 have hstay : ∀ {v : Value} {d : DataW H} {p : List MemPlace}, DataW.Trod enc Tryz.prog W 0 (fun _ => true) true 22 v d p → (∀ x ∈ p, x.block < W.heap.size) → DataW.Trod enc Tryz.prog W' 0 (fun b => decide (b < W.heap.size)) true 22 v d p :=
  fun h hl => WideElems.Trod_stays laidOutP (by kernel_rfl) (of_decide_eq_true (by kernel_rfl)) h (fun x hx => hs.sameAt (hl x hx)) (fun x hx => by simpa using hl x hx)
 refine ⟨_, O, _, _, _, [], (p0 ++ p1), [], hW', ?_, ?_, ?_, hs.frame _, fun h => by cases h⟩
 · rw [e1]; exact trodAll_mk1 (shut_bool υ4 true)
 · rw [e1]; exact trodAll_mk2 (hstay h0 hlt0) (hstay h1 hlt1)
 · rw [e1]; rfl
end Go.Proofs.YtpfglkohcfjelaaGreatDoor
