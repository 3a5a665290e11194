/- Lemmas of this claim, joined by program. Walks of functions: a store and its plans, whole. Rules for a range over a function that stands in a loop: the frame's list of deferred calls grows by one a round; a body that breaks off. Conditions: each lemma names its own. -/
import Derived.Test.YtgnkdfkkplbjiaaGreatDoorB15
import Derived.Test.YtgnkdfkkplbjiaaGreatDoorB12
set_option linter.all false
namespace Go.Tm
open Go.RowKit Go.Proofs
theorem okP24 {n : Int} (h1 : 1 ≤ n) (h2 : n ≤ 24) {r : Ord × Int} (hr : Best PU n r) : okP (plnM r.1) := by
  refine ⟨okB24 h1 h2 hr, ?_⟩
  have h := (hasP24 n h1 h2 r hr).1
  have := (tx_bd (o := r.1) (by omega)).2
  show (deepT r.1).size ≤ 1000000
  have e : (deepT r.1).size = 4 + 1 + (tx r.1).length := by
    unfold deepT
    rw [ByteArray.size_append, ByteArray.size_append]; rfl
  omega
/-- A store at rest, and its plans. -/
structure StO (B : Nat) (w : World) (q mb r mo : Nat) (L : List Nm) (m : List (Nm × Value)) (pe : Nm → List UInt8) : Prop where
  sr : StR w q mb r 0 mo L m
  dm : DomI L m
  pls : PlsR B w q mb r m pe
  len : L.length ≤ mo
  nm : ∀ x ∈ L, x.length ≤ 64
theorem StO.to {D : Nat → Prop} {B : Nat} {w w' : World} {q mb r mo : Nat} {L : List Nm} {m : List (Nm × Value)} {pe : Nm → List UInt8} (h : StO B w q mb r mo L m pe) (c : Ch D w w') (hd : ∀ y, y < w.heap.size → (y < B ∨ y = q ∨ y = mb ∨ r = y + 1) → y = y → ¬ D y) : StO B w' q mb r mo L m pe :=
  ⟨h.sr.to c (fun y h1 h2 _ => hd y h1 (.inr h2) rfl), h.dm, h.pls.to c (fun y h1 h2 _ => hd y h1 (.inl h2.1) rfl), h.len, h.nm⟩
theorem StO.keep {B : Nat} {w w' : World} {q mb r mo : Nat} {L : List Nm} {m : List (Nm × Value)} {pe : Nm → List UInt8} (h : StO B w q mb r mo L m pe) (c : Ch No w w') : StO B w' q mb r mo L m pe := h.to c fun _ _ _ _ => id
theorem StO.lt {B : Nat} {w : World} {q mb r mo : Nat} {L : List Nm} {m : List (Nm × Value)} {pe : Nm → List UInt8} (h : StO B w q mb r mo L m pe) : q < w.heap.size ∧ mb < w.heap.size ∧ r ≤ w.heap.size ∧ r ≠ q + 1 ∧ r ≠ mb + 1 ∧ mb ≠ q := h.sr.lt
theorem StO.re {B : Nat} {w w' : World} {q mb r mo : Nat} {L : List Nm} {m : List (Nm × Value)} {pe : Nm → List UInt8} (h : StO B w q mb r mo L m pe) (sr : StR w' q mb r 0 mo L m) (c : Ch (QS q mb r) w w') : StO B w' q mb r mo L m pe :=
  ⟨sr, h.dm, h.pls.to c (fun y _ h2 _ h3 => h2.2 h3), h.len, h.nm⟩
theorem PlsR.mono {B B' : Nat} {w : World} {q mb r r' : Nat} {m m' : List (Nm × Value)} {pe : Nm → List UInt8} (h : PlsR B w q mb r m pe) (hB : B ≤ B') (hm : ∀ x v, mfind m' x = some v → mfind m x = some v) (hr : r' = r ∨ B < r') : PlsR B' w q mb r' m' pe :=
  ⟨fun x v hx => by
    obtain ⟨lo, hi, p, P, h1, h2, h3, h4, h5, h6, h7, h8⟩ := h.ex x v (hm x v hx)
    exact ⟨lo, hi, p, P, h1, h2, by omega, h4, h5, h6, h7, by omega⟩⟩
theorem keepL_le {mo : Nat} {x : Nm} {L : List Nm} (h : L.length ≤ mo) : (keepL mo x L).length ≤ mo := by
  unfold keepL
  have h1 := without_len x L
  split
  · rename_i y hy
    have hl := (List.getElem?_eq_some_iff.1 hy).1
    have hmem := List.mem_of_getElem? hy
    have : (without y (x :: without x L)).length < (x :: without x L).length := by
      unfold without
      exact List.length_filter_lt_length_iff_exists.2 ⟨y, hmem, by simp⟩
    simp only [List.length_cons] at this
    omega
  · rename_i hy
    have := List.getElem?_eq_none_iff.1 hy
    omega
theorem without_sub {x y : Nm} {L : List Nm} (h : y ∈ without x L) : y ∈ L := (List.mem_filter.1 h).1
theorem keepL_sub {mo : Nat} {x y : Nm} {L : List Nm} (h : y ∈ keepL mo x L) : y = x ∨ y ∈ L := by
  unfold keepL at h
  split at h
  · have := without_sub h
    rcases List.mem_cons.1 this with h | h
    · exact .inl h
    · exact .inr (without_sub h)
  · rcases List.mem_cons.1 h with h | h
    · exact .inl h
    · exact .inr (without_sub h)
theorem keepM_find {mo : Nat} {x y : Nm} {v u : Value} {L : List Nm} {m : List (Nm × Value)} (dm : DomI L m) (h : mfind (keepM mo x v L m) y = some u) : (y = x ∧ u = v) ∨ (y ≠ x ∧ mfind m y = some u) := by
  have h1 : ∀ z, mfind (mset1 m x v) z = some u → (z = x ∧ u = v) ∨ (z ≠ x ∧ mfind m z = some u) := by
    intro z hz
    rw [mfind_mset1] at hz
    split at hz
    · rename_i e; exact .inl ⟨e, (Option.some.inj hz).symm⟩
    · rename_i e; exact .inr ⟨e, hz⟩
  unfold keepM at h
  split at h
  · rename_i z hz
    rw [mfind_mdel (mset1_nodup dm.km x v)] at h
    split at h
    · cases h
    · exact h1 y h
  · exact h1 y h
/-- Keep: a plan put under any name. -/
theorem so_Keep (E : Nat → Addr) (B0 B lo hi p mo q mb r : Nat) (P : Pln) (L : List Nm) (m : List (Nm × Value)) (pe : Nm → List UInt8) (x : Nm) (w : World) (so : StO B w q mb r mo L m pe) (hmo : mo ≤ 100) (hB : B ≤ w.heap.size) (er : ErrT B0 E w) (pl : PlnR lo hi w p P) (hh : hi ≤ w.heap.size) (okp : okP P) (dq : q < lo ∨ hi ≤ q) (db : mb < lo ∨ hi ≤ mb) (dr : r ≤ lo ∨ hi < r) :
    Calls Tryz.prog 8 #[.pointer (some ⟨q, 0, none⟩), strV x, .pointer (some ⟨p, 0, none⟩)] w (Ret fun v w' => ∃ r' L' m' pe', StO w.heap.size w' q mb r' mo L' m' pe' ∧ (r' = r ∨ w.heap.size < r') ∧ Ch (QS q mb r) w w') := by
  have hll := so.len
  refine (st_Keep_any E B0 p mo q mb r L m x w so.sr (by omega) er so.dm).mono ?_
  rintro e w' ⟨v, rfl, r', L', m', rfl, hk, dm', sr', hr', ch⟩
  have pl' : PlnR lo hi w' p P := pl.to ch (fun y hy hI _ hd => by have h1 := hI.1; have h2 := hI.2; omega)
  have pls' := so.pls.to ch (fun y _ h2 _ h3 => h2.2 h3)
  rcases hk with ⟨hx, rfl, rfl⟩ | ⟨hx, rfl, rfl⟩
  · refine ⟨_, rfl, r', _, _, fun y => if y = x then encP P else pe y, ⟨sr', dm', ⟨fun y u hy => ?_⟩, keepL_le so.len, fun y hy => ?_⟩, hr', ch⟩
    · rcases keepM_find so.dm hy with ⟨rfl, rfl⟩ | ⟨hne, hy⟩
      · exact ⟨lo, hi, p, P, rfl, pl', hh, okp, by rw [if_pos rfl], dq, db, by omega⟩
      · obtain ⟨lo2, hi2, p2, P2, h1, h2, h3, h4, h5, h6, h7, h8⟩ := pls'.ex y u hy
        exact ⟨lo2, hi2, p2, P2, h1, h2, by omega, h4, by rw [if_neg hne]; exact h5, h6, h7, by omega⟩
    · rcases keepL_sub hy with rfl | hy
      · exact hx.2
      · exact so.nm y hy
  · exact ⟨_, rfl, r', _, _, pe, ⟨sr', dm', pls'.mono hB (fun _ _ h => h) (by omega), so.len, so.nm⟩, hr', ch⟩
theorem so_Get (E : Nat → Addr) (B0 B mo q mb r : Nat) (L : List Nm) (m : List (Nm × Value)) (pe : Nm → List UInt8) (x : Nm) (w : World) (so : StO B w q mb r mo L m pe) (hmo : mo ≤ 100) (hB : B ≤ w.heap.size) (er : ErrT B0 E w) (hq : B0 ≤ q) :
    Calls Tryz.prog 9 #[.pointer (some ⟨q, 0, none⟩), strV x] w (Ret fun v w' => ∃ r' L' m' pe', StO w.heap.size w' q mb r' mo L' m' pe' ∧ (r' = r ∨ w.heap.size < r') ∧ Ch (QS q mb r) w w') := by
  have hll := so.len
  refine (st_Get_any E B0 mo q mb r L m x w so.sr (by omega) er hq so.dm).mono ?_
  rintro e w' ⟨v, rfl, r', L', pv, rfl, hk, dm', sr', hr', ch⟩
  have pls' := (so.pls.to ch (fun y _ h2 _ h3 => h2.2 h3)).mono (B' := w.heap.size) (r' := r') hB (fun _ _ h => h) (by omega)
  rcases hk with ⟨hx, rfl⟩ | ⟨hx, rfl⟩
  · refine ⟨_, rfl, r', _, m, pe, ⟨sr', dm', pls', ?_, fun y hy => ?_⟩, hr', ch⟩
    · have : (without x L).length < L.length := by
        unfold without
        exact List.length_filter_lt_length_iff_exists.2 ⟨x, hx, by simp⟩
      simp only [List.length_cons]; omega
    · rcases List.mem_cons.1 hy with rfl | hy
      · exact so.nm _ hx
      · exact so.nm _ (without_sub hy)
  · exact ⟨_, rfl, r', _, m, pe, ⟨sr', dm', pls', so.len, so.nm⟩, hr', ch⟩
theorem so_Drop (B mo q mb r : Nat) (L : List Nm) (m : List (Nm × Value)) (pe : Nm → List UInt8) (x : Nm) (w : World) (so : StO B w q mb r mo L m pe) (hmo : mo ≤ 100) (hB : B ≤ w.heap.size) :
    Calls Tryz.prog 16 #[.pointer (some ⟨q, 0, none⟩), strV x] w (Ret fun v w' => ∃ L' m' pe', StO w.heap.size w' q mb r mo L' m' pe' ∧ Ch (QS q mb r) w w') := by
  have hll := so.len
  have fin : ∀ (w' : World), StR w' q mb r 0 mo (without x L) (mdel m x) → Ch (QS q mb r) w w' → ∃ L' m' pe', StO w.heap.size w' q mb r mo L' m' pe' ∧ Ch (QS q mb r) w w' := by
    intro w' sr' ch
    refine ⟨_, _, pe, ⟨sr', so.dm.drop x, (so.pls.to ch (fun y _ h2 _ h3 => h2.2 h3)).mono hB (fun y u hy => ?_) (.inl rfl), by have := without_len x L; omega, fun y hy => so.nm y (without_sub hy)⟩, ch⟩
    rw [mfind_mdel so.dm.km] at hy
    split at hy
    · cases hy
    · exact hy
  cases hm : mfind m x with
  | some pv =>
    refine (st_Drop pv mo q mb r L m x w so.sr (by omega) hm).mono ?_
    rintro e w' ⟨v, rfl, rfl, sr', ch⟩
    exact ⟨_, rfl, fin _ sr' ch⟩
  | none =>
    refine (st_Drop_miss mo q mb r L m x w so.sr (by omega) hm).mono ?_
    rintro e w' ⟨v, rfl, rfl, sr', ch⟩
    exact ⟨_, rfl, fin _ sr' ch⟩
theorem so_Save (B mo q mb r : Nat) (L : List Nm) (m : List (Nm × Value)) (pe : Nm → List UInt8) (w : World) (so : StO B w q mb r mo L m pe) (hmo : mo ≤ 64) (hB : B ≤ w.heap.size) (st : StT w) (hG : 23 ≤ q) (hGm : 23 ≤ mb) (hGr : r = 0 ∨ 23 < r) :
    Calls Tryz.prog 14 #[.pointer (some ⟨q, 0, none⟩)] w (Ret fun v w' => ∃ r' A' c', v = .slice A' (saveB mo L pe).length c' ∧ Ow w' r' 5 1 A' (saveB mo L pe).length c' (Lib.byteCells (saveB mo L pe)) ∧ (r' = 0 ∨ w.heap.size < r') ∧ (saveB mo L pe).length ≤ 100000000000 ∧ StO B w' q mb r mo L m pe ∧ Ch (QS q mb r) w w') := by
  have hll := so.len
  refine (st_Save mo hmo q mb r B L m pe w so.sr (by omega) so.nm so.dm so.pls hB st hG hGm hGr).mono ?_
  rintro e w' ⟨v, rfl, r', A', c', rfl, h1, h2, h3, h4, h5⟩
  exact ⟨_, rfl, r', A', c', rfl, h1, h2, h3, so.re h4 h5, h5⟩
theorem so_names (B mo q mb r : Nat) (L : List Nm) (m : List (Nm × Value)) (pe : Nm → List UInt8) (w : World) (so : StO B w q mb r mo L m pe) (hmo : mo ≤ 64) :
    Calls Tryz.prog 10 #[.pointer (some ⟨q, 0, none⟩)] w (Ret fun v w' => ∃ r' A c, v = .tuple #[.slice A L.length c, .bool true] ∧ Ow w' r' 9 1 A L.length c (L.map strV) ∧ w.heap.size < r' ∧ StO B w' q mb r mo L m pe ∧ Ch (QS q mb r) w w') := by
  have hll := so.len
  refine (law_names mo q mb r L m w so.sr (by omega) (by omega)).mono ?_
  rintro e w' ⟨v, rfl, r', A', c', rfl, h1, h2, h4, h5⟩
  exact ⟨_, rfl, r', A', c', rfl, h1, h2, so.re h4 h5, h5⟩



end Go.Tm
namespace Go.Tm
open Go.RowKit
def dsF (ds : List Nat) : List Deferred := ds.map fun D => { target := .collected D, args := #[] }
def LoopPostN {σ : Type} (nf : σ → Fr) (kf : σ → K) (J : σ → World → Prop) (m : σ → Nat) (s : σ) (a' : Act) (w' : World) : Prop := ∃ s', m s' < m s ∧ J s' w' ∧ Fits (nf s') (kf s') a'
section
variable {r : Option Nat} {P : Program} {n : Fr} {Q : Exit → Act → World → Prop} {k : K} {w : World}
theorem VC.loopN {c : Code} {σ : Type} (nf : σ → Fr) (kf : σ → K) (J : σ → World → Prop) (m : σ → Nat) (s : σ) (hn : nf s = n) (hJ : J s w) (hk : kall k (kf s))
    (round : ∀ s w, J s w → VC (r := r) P (nf s) c (Exit.then (LoopPostN nf kf J m s) Q) (kf s) w) : VC (r := r) P n (.loop c) Q k w := by
  subst hn
  refine VC.loop (fun i a w => ∃ s, m s = i ∧ J s w ∧ Fits (nf s) (kf s) a) (m s) (fun a ha => ⟨s, rfl, hJ, ha.less hk⟩) ?_
  rintro i a w ⟨s, rfl, hJ, hf⟩
  refine wpIn_mono (round s w hJ a hf) ?_
  intro e a' w' hq
  cases e <;> first | exact hq | skip
  obtain ⟨s', h1, h2, h3⟩ := hq
  exact ⟨m s', h1, s', rfl, h2, h3⟩
theorem VQ.roundN {σ : Type} {nf : σ → Fr} {kf : σ → K} {J : σ → World → Prop} {m : σ → Nat} {s : σ} (s' : σ) (hn : nf s' = n) (hm : m s' < m s) (hJ : J s' w) (hk : kall k (kf s')) :
    VQ n (Exit.then (LoopPostN nf kf J m s) Q) .normal k w := by
  subst hn
  exact fun _ ha => ⟨s', hm, hJ, ha.less hk⟩
theorem VQ.roundE {α : Type} {k : K} {W w' : World} {B : Nat} {Kp : World → World → Prop} {I : List α → World → Prop} {Ix : Code → List α → World → Prop} {xs : List α} {D : Nat → Prop} {id : Nat} (hc : Ch D W w') (hD : ∀ q, D q → q < B ∨ isC W q) (hI : Ix (.exit id) xs w') :
    VQ n (ownPostG B Kp I Ix xs W) (.exit id) k w' := fun _ _ => ⟨⟨hc.size, fun q o hB hq hn => hc.old q o (fun h => by
      rcases hD q h with h | ⟨cs, t, fr, h⟩
      · omega
      · rw [h] at hq; injection hq with hq; subst hq; cases hn) hq⟩, hI⟩
theorem VQ.roundT {α : Type} {k : K} {W w' : World} {B : Nat} {Kp : World → World → Prop} {I : List α → World → Prop} {Ix : Code → List α → World → Prop} {xs : List α} {D : Nat → Prop} (hc : Ch D W w') (hD : ∀ q, D q → q < B ∨ isC W q) (hI : Ix .ret xs w') :
    VQ n (ownPostG B Kp I Ix xs W) .ret k w' := fun _ _ => ⟨⟨hc.size, fun q o hB hq hn => hc.old q o (fun h => by
      rcases hD q h with h | ⟨cs, t, fr, h⟩
      · omega
      · rw [h] at hq; injection hq with hq; subst hq; cases hn) hq⟩, hI⟩
end
theorem VQ.retc1 {P : Program} {k : K} {w : World} {m : Nat} {fn : Func} {R : Ending → World → Prop} {t : Nat} {ty : TypeId} {ad : Addr} {v : Value} (hf : fn.results = #[.cell t ty]) (hv : kget k t = some (.pointer (some ad))) (ht : ∀ w, (isAgg ty).run P w = .ok false w)
    (hc : w.cell? ad = some v) (hR : R (.returned v) w) : VQ ⟨m, []⟩ (bodyPost P fn R) .ret k w :=
  VQ.post rfl (fun a ha => by have h1 := ha.known t _ hv; simp [results, hf, h1, loadVar, ht, asAddr, hc]) hR
/-- The blocks of several ranges' deferred calls. -/
structure Dfs (w : World) (B : Nat) (ds : List Nat) : Prop where
  nd : ds.Nodup
  blk : ∀ D ∈ ds, w.heap[D]? = some (.deferred (some [])) ∧ B ≤ D
theorem VQ.dropN {P : Program} {m : Nat} {k : K} {w : World} {fn : Func} {R : Ending → World → Prop} {D : Nat} {ds : List Nat} (hD : w.heap[D]? = some (.deferred (some []))) (h : ∀ w', w' = w.putObj D (.deferred none) → VQ ⟨m, dsF ds⟩ (bodyPostM Fence.wide 0 P fn R) .ret k w') : VQ ⟨m, dsF (D :: ds)⟩ (bodyPostM Fence.wide 0 P fn R) .ret k w := by
  intro a ha
  have h1 := h _ rfl { a with defers := dsF ds } ⟨rfl, ha.size, ha.known⟩
  show LeavesInM _ _ _ _ _ _ a.defers _ _
  rw [ha.defers]
  exact ⟨by simp [dsF], .inl ⟨_, _, rfl, run_takeDeferred hD, h1⟩⟩
theorem Dfs.nil (w : World) (B : Nat) : Dfs w B [] := ⟨by simp, fun D h => by cases h⟩
theorem Gn.then {B : Nat} {a b c : World} (g1 : Gn B a b) (g2 : Gn B b c) : Gn B a c :=
  ⟨g2.os.trans g1.os, g2.tape.trans g1.tape, g2.output.trans g1.output, Nat.le_trans g1.size g2.size, fun q x hq hx => g2.old q x (fun ⟨h1, o, h2, h3⟩ => hq ⟨h1, x, hx, by
    have e := g1.old q x hq hx
    rw [e] at h2; injection h2 with h2; subst h2; exact h3⟩) (g1.old q x hq hx)⟩
theorem VQ.dropAll {P : Program} {m B : Nat} {k : K} {fn : Func} {R : Ending → World → Prop} : ∀ (ds : List Nat) (w : World), Dfs w B ds → (∀ w', Gn B w w' → VQ ⟨m, []⟩ (bodyPostM Fence.wide 0 P fn R) .ret k w') → VQ ⟨m, dsF ds⟩ (bodyPostM Fence.wide 0 P fn R) .ret k w
  | [], w, _, h => h w (Ch.refl _ _)
  | D :: ds, w, hd, h => by
    have h0 := hd.blk D (by simp)
    have hnd := List.nodup_cons.1 hd.nd
    refine VQ.dropN h0.1 fun w' e => ?_
    subst e
    have g1 : Gn B w (w.putObj D (.deferred none)) := Gn.put h0.1 h0.2
    refine VQ.dropAll ds _ ⟨hnd.2, fun D' hD' => ?_⟩ fun w' g => h w' (Gn.then g1 g)
    have h1 := hd.blk D' (by simp [hD'])
    refine ⟨?_, h1.2⟩
    have hne : D ≠ D' := fun e => hnd.1 (e ▸ hD')
    rw [← h1.1]
    simp [World.putObj, Array.getElem?_setIfInBounds, hne]
theorem Dfs.to {D : Nat → Prop} {w w' : World} {B : Nat} {ds : List Nat} (h : Dfs w B ds) (c : Ch D w w') (hd : ∀ q, q < w.heap.size → q ∈ ds → q = q → ¬ D q) : Dfs w' B ds :=
  ⟨h.nd, fun q hq => ⟨c.old q _ (hd q (blk_lt (h.blk q hq).1) hq rfl) (h.blk q hq).1, (h.blk q hq).2⟩⟩
theorem Dfs.keep {w w' : World} {B : Nat} {ds : List Nat} (h : Dfs w B ds) (c : Ch No w w') : Dfs w' B ds := h.to c fun _ _ _ _ => id
theorem Dfs.toG {w w' : World} {B B' : Nat} {ds : List Nat} (h : Dfs w B ds) (g : Gn B' w w') (hb : ∀ q ∈ ds, q < B') : Dfs w' B ds :=
  h.to g fun q _ hq _ hd => by have := hb q hq; have := hd.1; omega
theorem Dfs.cons {w : World} {B D : Nat} {ds : List Nat} (h : Dfs w B ds) (hD : w.heap[D]? = some (.deferred (some []))) (hB : B ≤ D) (hn : ∀ q ∈ ds, q < D) : Dfs w B (D :: ds) :=
  ⟨List.nodup_cons.2 ⟨fun hm => by have := hn D hm; omega, h.nd⟩, fun q hq => by
    rcases List.mem_cons.1 hq with rfl | hq
    · exact ⟨hD, hB⟩
    · exact h.blk q hq⟩
end Go.Tm
