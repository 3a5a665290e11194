/- Lemmas of this claim, joined by program. Walks of functions: the document's planner, whole. Conditions: each lemma names its own. -/
import Derived.Test.YtpfglkohcfjelaaGreatDoorJ15
set_option linter.all false
namespace Go.Tm
set_option maxRecDepth 100000
open Go.RowKit Go.Proofs Go.Proofs.Tryz
abbrev KE := Int × (Ord × Int)
abbrev SK (base hi : Nat) (R U : Nat → Prop) : Nat → Prop := fun q => (base ≤ q ∧ q < hi) ∧ ¬ R q ∧ ¬ U q
theorem SK.up {base hi hi' : Nat} {R R' U U' : Nat → Prop} (h : hi ≤ hi') (hr : ∀ q, R' q → R q ∨ hi ≤ q) (hu : ∀ q, q < hi → U' q → U q) : ∀ q, SK base hi R U q → SK base hi' R' U' q := fun q hq => ⟨⟨hq.1.1, by have := hq.1.2; omega⟩, fun h3 => by
 rcases hr q h3 with h3 | h3
 · exact hq.2.1 h3
 · have := hq.1.2; omega, fun h3 => hq.2.2 (hu q hq.1.2 h3)⟩
theorem KidRow.at {S T : Nat → Prop} {w : World} {A : Option Addr} {cs : List Value} {ks : List Ord} (h : KidRow S w cs ks) (hs : SlR T w A ks.length 3 cs) {i : Nat} {o : Ord} (hi : ks[i]? = some o) :
  ∃ A' c', CaR T w ((sAddr A).add (i * 3)) [.int .i64 o.kind, .int .i64 o.n, .slice A' o.kids.length c'] ∧ RdK S w A' o.kids := by
 obtain ⟨As, caps, h1, h2⟩ := h
 obtain ⟨e1, e2, e3⟩ := h1 i o hi
 have hlt := (List.getElem?_eq_some_iff.1 hi).1
 obtain ⟨ad, had⟩ := hs.ne (by omega)
 refine ⟨As i, caps i, ⟨hs.part hlt ?_, by rw [add_block]; subst had; exact hs.ok ad O⟩, h2 i o hi⟩
 intro j v hj
 match j with
 | 0 => simp at hj; subst hj; exact e1
 | 1 => simp at hj; subst hj; exact e2
 | 2 => simp at hj; subst hj; exact e3
 | j + 3 => simp at hj
theorem nodup_le : ∀ (N : Nat) (l : List Int), l.Nodup → (∀ x ∈ l, 1 ≤ x ∧ x ≤ N) → l.length ≤ N
 | 0, l, _, h => by
  cases l with
  | nil => simp
  | cons a t => have := h a List.mem_cons_self; omega
 | N + 1, l, hn, h => by
  have h1 := nodup_le N (l.erase (N + 1 : Int)) (hn.erase _) (fun x hx => by
   have h2 := hn.mem_erase_iff.1 hx
   have := h x h2.2
   have := h2.1
   omega)
  rw [List.length_erase] at h1
  split at h1 <;> omega
structure KnF (base kb : Nat) (R U : Nat → Prop) (es : List KE) (w : World) (r1 r2 r3 : Nat) (A1 A2 A3 : Option Addr) (c1 c2 c3 : Nat) (cs : List Value) : Prop where
  bk : Bk w kb #[.slice A1 es.length c1, .slice A2 es.length c2, .slice A3 es.length c3] 191
  o1 : Ow w r1 3 1 A1 es.length c1 (es.map fun e => .int .i64 e.1)
  o2 : Ow w r2 53 3 A2 es.length c2 cs
  o3 : Ow w r3 3 1 A3 es.length c3 (es.map fun e => .int .i64 e.2.2)
  kr : KidRow (SK base w.heap.size R U) w cs (es.map fun e => e.2.1)
  ok : ∀ e ∈ es, Best PU e.1 e.2 ∧ -1 ≤ e.2.2 ∧ e.2.2 ≤ 4611686018427387905 ∧ 1 ≤ e.1 ∧ e.1 ≤ 16384
  nd : (es.map fun e => e.1).Nodup
  hR : ∀ q, R q ↔ q = kb ∨ r1 = q + 1 ∨ r2 = q + 1 ∨ r3 = q + 1
  lb : base ≤ kb ∧ (r1 = 0 ∨ kb + 1 < r1) ∧ (r2 = 0 ∨ kb + 1 < r2) ∧ (r3 = 0 ∨ kb + 1 < r3)
  dj : (r1 = 0 ∨ ¬ r1 = r2) ∧ (r1 = 0 ∨ ¬ r1 = r3) ∧ (r2 = 0 ∨ ¬ r2 = r3)
def Kn (base kb : Nat) (R U : Nat → Prop) (es : List KE) (w : World) : Prop := ∃ r1 r2 r3 A1 A2 A3 c1 c2 c3 cs, KnF base kb R U es w r1 r2 r3 A1 A2 A3 c1 c2 c3 cs
theorem KnF.keep {base kb : Nat} {R U : Nat → Prop} {es : List KE} {w w' : World} {r1 r2 r3 : Nat} {A1 A2 A3 : Option Addr} {c1 c2 c3 : Nat} {cs : List Value} (h : KnF base kb R U es w r1 r2 r3 A1 A2 A3 c1 c2 c3 cs) (c : Ch No w w') : KnF base kb R U es w' r1 r2 r3 A1 A2 A3 c1 c2 c3 cs :=
 ⟨h.bk.keep c, h.o1.keep c, h.o2.keep c, h.o3.keep c, (h.kr.keep c).weak (SK.up c.size (fun _ => .inl) fun _ _ => id), h.ok, h.nd, h.hR, h.lb, h.dj⟩
theorem Kn.keep {base kb : Nat} {R U : Nat → Prop} {es : List KE} {w w' : World} (h : Kn base kb R U es w) (c : Ch No w w') : Kn base kb R U es w' := by
 obtain ⟨r1, r2, r3, A1, A2, A3, c1, c2, c3, cs, h⟩ := h
 exact ⟨r1, r2, r3, A1, A2, A3, c1, c2, c3, cs, h.keep c⟩
theorem Kn.bd {base kb : Nat} {R U : Nat → Prop} {es : List KE} {w : World} (h : Kn base kb R U es w) : (∀ q, R q → kb ≤ q ∧ q < w.heap.size) ∧ es.length ≤ 16384 ∧ base ≤ kb := by
 obtain ⟨r1, r2, r3, A1, A2, A3, c1, c2, c3, cs, h⟩ := h
 refine ⟨fun q hq => ?_, ?_, h.lb.1⟩
 ·
  have := h.bk.lt; have := h.o1.lt; have := h.o2.lt; have := h.o3.lt; have := h.lb
  rcases (h.hR q).1 hq with e | e | e | e <;> omega
 ·
  have := nodup_le 16384 _ h.nd (fun x hx => by
   obtain ⟨e, he, rfl⟩ := List.mem_map.1 hx
   have := h.ok e he
   omega)
  simpa using this
theorem Kn.less {base kb : Nat} {R U U' : Nat → Prop} {es : List KE} {w : World} (h : Kn base kb R U es w) (hu : ∀ q, q < w.heap.size → U' q → U q) : Kn base kb R U' es w := by
 obtain ⟨r1, r2, r3, A1, A2, A3, c1, c2, c3, cs, h⟩ := h
 exact ⟨r1, r2, r3, A1, A2, A3, c1, c2, c3, cs, h.bk, h.o1, h.o2, h.o3, h.kr.weak (SK.up (Nat.le_refl _) (fun _ => .inl) hu), h.ok, h.nd, h.hR, h.lb, h.dj⟩
theorem Kn.more {base kb : Nat} {R U : Nat → Prop} {es : List KE} {w w' : World} {r1 r2 r3 r1' r2' r3' : Nat} {A1 A2 A3 A1' A2' A3' : Option Addr} {c1 c2 c3 c1' c2' c3' : Nat} {cs : List Value} {n : Int} {r : Ord × Int} {A : Option Addr} {c : Nat}
  (h : KnF base kb R U es w r1 r2 r3 A1 A2 A3 c1 c2 c3 cs) (b : Bk w' kb #[.slice A1' (es.length + 1) c1', .slice A2' (es.length + 1) c2', .slice A3' (es.length + 1) c3'] 191)
  (o1 : Ow w' r1' 3 1 A1' (es.length + 1) c1' ((es.map fun e => .int .i64 e.1) ++ [.int .i64 n])) (o2 : Ow w' r2' 53 3 A2' (es.length + 1) c2' (cs ++ [.int .i64 r.1.kind, .int .i64 r.1.n, .slice A r.1.kids.length c]))
  (o3 : Ow w' r3' 3 1 A3' (es.length + 1) c3' ((es.map fun e => .int .i64 e.2.2) ++ [.int .i64 r.2])) (g : Ch R w w') (rk : RdK (SK base w.heap.size R U) w A r.1.kids)
  (hb : Best PU n r) (h1 : -1 ≤ r.2 ∧ r.2 ≤ 4611686018427387905) (hn : 1 ≤ n ∧ n ≤ 16384) (hnew : ∀ e ∈ es, ¬ e.1 = n)
  (e1 : r1' = r1 ∨ w.heap.size < r1') (e2 : r2' = r2 ∨ w.heap.size < r2') (e3 : r3' = r3 ∨ w.heap.size < r3') (d : (r1' = 0 ∨ ¬ r1' = r2') ∧ (r1' = 0 ∨ ¬ r1' = r3') ∧ (r2' = 0 ∨ ¬ r2' = r3')) :
  ∃ R', Kn base kb R' U (es ++ [(n, r)]) w' ∧ (∀ q, R' q → R q ∨ w.heap.size ≤ q) ∧ RdK (SK base w'.heap.size R' U) w' A r.1.kids := by
 have hs := g.size
 have hk := h.bk.lt
 have hl := h.lb
 have hu : ∀ q, (q = kb ∨ r1' = q + 1 ∨ r2' = q + 1 ∨ r3' = q + 1) → R q ∨ w.heap.size ≤ q := fun q hq => by
  rw [h.hR]; omega
 have hup := SK.up (U := U) (U' := U) (base := base) hs hu fun _ _ => id
 have hd : ∀ q, q < w.heap.size → SK base w.heap.size R U q → isC w q → ¬ R q := fun _ _ h _ => h.2.1
 have rk' := (rk.to g hd).weak hup
 refine ⟨fun q => q = kb ∨ r1' = q + 1 ∨ r2' = q + 1 ∨ r3' = q + 1, ⟨r1', r2', r3', A1', A2', A3', c1', c2', c3', _, by simpa using b, by simpa using o1, by simpa using o2, by simpa using o3, ?_, ?_, ?_, fun q => Iff.rfl, ⟨hl.1, by omega, by omega, by omega⟩, d⟩, hu, rk'⟩
 ·
  rw [List.map_append]
  exact ((h.kr.to g hd).weak hup).snoc (by rw [List.length_map]; exact h.o2.len) rk'
 ·
  intro e he
  rcases List.mem_append.1 he with he | he
  · exact h.ok e he
  · simp at he; subst he; exact ⟨hb, h1.1, h1.2, hn⟩
 ·
  rw [List.map_append, List.nodup_append]
  refine ⟨h.nd, by simp, fun x hx y hy => ?_⟩
  obtain ⟨e, he, rfl⟩ := List.mem_map.1 hx
  simp at hy
  subst hy
  exact hnew e he
def CheapD (kb base : Nat) (n : Int) : Prop := ∀ (U : Nat → Prop) (FA : Option Addr) (fc : Nat) (R : Nat → Prop) (es : List KE) (w : World), Kn base kb R U es w → SlR (fun q => q < base) w FA 4 1 (PU.flies.map (.int .i64 ·)) → (∀ q, U q → q < w.heap.size) →
 Calls prog 152 #[Kh kb, Kg n, .agg #[Kg 16, .slice FA 4 fc, Kg 13]] w (Ret fun v w' => ∃ r A c R' es', v = .tuple #[ordV r.1 A c, Kg r.2] ∧ Best PU n r ∧ (-1 ≤ r.2 ∧ r.2 ≤ 4611686018427387905) ∧ RdK (SK base w'.heap.size R' U) w' A r.1.kids ∧ Kn base kb R' U es' w' ∧ (∀ q, R' q → R q ∨ w.heap.size ≤ q) ∧ (∀ e ∈ es', e ∈ es ∨ mu e.1 ≤ mu n) ∧ Ch R w w')
theorem KnF.kid {base kb : Nat} {R U : Nat → Prop} {es : List KE} {w : World} {r1 r2 r3 : Nat} {A1 A2 A3 : Option Addr} {c1 c2 c3 : Nat} {cs : List Value} (h : KnF base kb R U es w r1 r2 r3 A1 A2 A3 c1 c2 c3 cs) {i : Nat} {e : KE} (hi : es[i]? = some e) :
  ∃ A' c', CaR (At r2) w ((sAddr A2).add (i * 3)) [.int .i64 e.2.1.kind, .int .i64 e.2.1.n, .slice A' e.2.1.kids.length c'] ∧ RdK (SK base w.heap.size R U) w A' e.2.1.kids :=
 h.kr.at (o := e.2.1) (by rw [List.length_map]; exact h.o2.sl) (by rw [List.getElem?_map, hi]; rfl)
theorem Kn.to {base kb : Nat} {R U D : Nat → Prop} {es : List KE} {w w' : World} (h : Kn base kb R U es w) (c : Ch D w w') (hd : ∀ q, q < w.heap.size → D q → U q ∧ ¬ R q) : Kn base kb R U es w' := by
 obtain ⟨r1, r2, r3, A1, A2, A3, c1, c2, c3, cs, h⟩ := h
 have hr : ∀ q, q < w.heap.size → R q → ¬ D q := fun q hq h1 h2 => (hd q hq h2).2 h1
 exact ⟨r1, r2, r3, A1, A2, A3, c1, c2, c3, cs, h.bk.to c (hr _ h.bk.lt ((h.hR _).2 (.inl O))), h.o1.to c (fun q hq e _ => hr q hq ((h.hR _).2 (.inr (.inl e)))), h.o2.to c (fun q hq e _ => hr q hq ((h.hR _).2 (.inr (.inr (.inl e))))), h.o3.to c (fun q hq e _ => hr q hq ((h.hR _).2 (.inr (.inr (.inr e))))),
  (h.kr.to c (fun q hq hs _ hD => hs.2.2 (hd q hq hD).1)).weak (SK.up c.size (fun _ => .inl) fun _ _ => id), h.ok, h.nd, h.hR, h.lb, h.dj⟩
abbrev UX9 (U : Nat → Prop) (lo hi : Nat) : Nat → Prop := fun q => U q ∨ (lo ≤ q ∧ q ≤ hi)
abbrev kd0 : KE := (0, (.mk 0 0 [], 0))
structure CD (base p1 p2 : Nat) (n : Int) (FA : Option Addr) (fc : Nat) (w : World) : Prop where
  b5 : Bk w p1 #[.int .i64 16, .slice FA 4 fc, .int .i64 13] 79
  b6 : Bk w p2 #[.int .i64 0, .int .i64 0, .slice none 0 0] 53
  sl : SlR (fun q => q < base) w FA 4 1 (PU.flies.map (.int .i64 ·))
theorem Wk.putLast {P : Program} {n : Fr} {k : K} {w : World} {ty : TypeId} {pos : String} {aft : Array Edge} {gd : Option (Nat × Bool)} {t e : TypeId} {x y : Operand} {r l c : Nat} {A : Option Addr} {cs zs : List Value} {a b s : Value} (hz : ∀ w, (sizeOf t).run P w = .ok 3 w) (hx : ev k x = some (.pointer (some ((sAddr A).add (l * 3))))) (hy : ev k y = some (.agg #[a, b, s])) (h1 : [a, b, s].all Value.oneCell' = true) (hown : Ow w r e 3 A (l + 1) c (cs ++ zs)) (hcl : cs.length = l * 3) :
  Wk P n k w { dst := none, op := .store t x y, type := ty, pos := pos, after := aft, guard := gd } (fun _ w' => Ow w' r e 3 A (l + 1) c (cs ++ [a, b, s]) ∧ Ch (At r) w w') := by
 have hzl := hown.len
 rw [List.length_append] at hzl
 obtain ⟨g, cur, rfl, rfl, hg, hlc, hcm, hcs, ht⟩ := hown.open' (by omega)
 have hx' : ev k x = some (.pointer (some ⟨g, l * 3, none⟩)) := by
  rw [hx]; simp [sAddr, Addr.add_lit]
 have hfit : l * 3 + 3 ≤ cur.size := by rw [hcs]; omega
 refine (Cl (cs := cur) (te := e) hz hx' (l := [a, b, s]) hy O h1 ⟨hg⟩ hfit).mono ?_
 intro _ w' hs
 have hsame := hs.same
 have e1 : cur.toList.take (l * 3) = cs := by
  have : (cur.toList.take ((l + 1) * 3)).take (l * 3) = cs := by rw [ht, ← hcl, List.take_left]
  rwa [List.take_take, Nat.min_eq_left (by omega)] at this
 have hcl2 : cur.toList.length = cur.size := Array.length_toList
 refine ⟨⟨by rw [List.length_append, hcl]; show _ + 3 = _; omega, .inr ⟨g, _, O, O, hsame, hlc, hcm, ?_, ?_⟩⟩, hs.ch.more (fun q _ hq => by rw [hq])⟩
 ·
  simp only [List.size_toArray, List.length_append, List.length_take, List.length_drop, List.length_cons, List.length_nil]
  omega
 ·
  rw [e1]
  show (cs ++ [a, b, s] ++ _).take ((l + 1) * 3) = _
  rw [show (l + 1) * 3 = (cs ++ [a, b, s]).length by rw [List.length_append, hcl]; show _ = _ + 3; omega, List.take_left]
theorem offerH_neg {n a : Int} {r : Ord × Int} (h : ¬ 0 ≤ r.2) : ∀ (l : List Ord) (b : Ord × Int), l.foldl (offerH n a r) b = b
 | [], _ => rfl
 | x :: t, b => by rw [List.foldl_cons, offerH, if_neg h]; exact offerH_neg h t b
theorem bestJ_end {n a : Int} {r b : Ord × Int} {i : Nat} (h : i = (headsM PU a).length ∨ ¬ 0 ≤ r.2) : bestJ PU n a r b i = (headsM PU a).foldl (offerH n a r) b := by
 rcases h with h | h
 · subst h; exact bestJ_all
 · unfold bestJ; rw [offerH_neg h, offerH_neg h]
/- How facts go over a change, within cheapest. -/
theorem RdK.tK {S D : Nat → Prop} {w w' : World} {A : Option Addr} {ks : List Ord} (h : RdK S w A ks) (c : Ch D w w') (hd : ∀ q, q < w.heap.size → S q → isC w q → ¬ D q := by first | exact fun _ _ _ _ => id | exact (fun q h1 h2 hx h3 => h2.2.1 h3) | (intro q h1 h2 hx h3; omega) | exact (fun q h1 h2 hx h3 => h2.2.2 (.inr (by omega))) | exact (fun q h1 h2 hx h3 => h2.2.1 ((kf.hR q).2 (by have := h2.1; omega))) | (intro q h1 h2 hx h3; have := hRb.1 q h3; omega) | (intro q h1 h2 hx h3; have := hRb.1 q ((kf.hR q).2 (by omega)); omega)) : RdK S w' A ks := h.to c hd
theorem SlR.tK {S D : Nat → Prop} {w w' : World} {A : Option Addr} {l sz : Nat} {cs : List Value} (h : SlR S w A l sz cs) (c : Ch D w w') (hd : ∀ q, q < w.heap.size → S q → isC w q → ¬ D q := by first | exact fun _ _ _ _ => id | exact (fun q h1 h2 hx h3 => h2.2.1 h3) | (intro q h1 h2 hx h3; omega) | exact (fun q h1 h2 hx h3 => h2.2.2 (.inr (by omega))) | exact (fun q h1 h2 hx h3 => h2.2.1 ((kf.hR q).2 (by have := h2.1; omega))) | (intro q h1 h2 hx h3; have := hRb.1 q h3; omega) | (intro q h1 h2 hx h3; have := hRb.1 q ((kf.hR q).2 (by omega)); omega)) : SlR S w' A l sz cs := h.to c hd
theorem CaR.tK {S D : Nat → Prop} {w w' : World} {ad : Addr} {cs : List Value} (h : CaR S w ad cs) (c : Ch D w w') (hd : ∀ q, q < w.heap.size → S q → isC w q → ¬ D q := by first | exact fun _ _ _ _ => id | exact (fun q h1 h2 hx h3 => h2.2.1 h3) | (intro q h1 h2 hx h3; omega) | exact (fun q h1 h2 hx h3 => h2.2.2 (.inr (by omega))) | exact (fun q h1 h2 hx h3 => h2.2.1 ((kf.hR q).2 (by have := h2.1; omega))) | (intro q h1 h2 hx h3; have := hRb.1 q h3; omega) | (intro q h1 h2 hx h3; have := hRb.1 q ((kf.hR q).2 (by omega)); omega)) : CaR S w' ad cs := h.to c hd
theorem Bk.tK {D : Nat → Prop} {w w' : World} {p : Nat} {cs : Array Value} {t : TypeId} (h : Bk w p cs t) (c : Ch D w w') (hd : ¬ D p := by first | exact id | omega | exact (fun h3 => by have := hRb.1 _ h3; omega) | exact (fun h3 => by have := hRx _ h3; omega)) : Bk w' p cs t := h.to c hd
theorem Kn.tK {base kb : Nat} {R U D : Nat → Prop} {es : List KE} {w w' : World} (h : Kn base kb R U es w) (c : Ch D w w') (hd : ∀ q, q < w.heap.size → D q → U q ∧ ¬ R q := by first | exact (fun q h1 h2 => ⟨.inr (by omega), fun h3 => by have := hRx q h3; omega⟩) | exact (fun q h1 h2 => ⟨.inr (by omega), fun h3 => by rcases hR2 q h3 with h3 | h3; (have := hRb.1 q h3; omega); omega⟩) | exact (fun q h1 h2 => ⟨.inr (by omega), fun h3 => by rcases hR2 q h3 with h3 | h3; (have := hRx q h3; omega); omega⟩)) : Kn base kb R U es w' := h.to c hd
theorem Ch.tH {D D' E : Nat → Prop} {a b c : World} (h : Ch D a b) (h' : Ch D' b c) (hd : ∀ q, q < a.heap.size → D q ∨ D' q → E q := by intro q h1 h2; rcases h2 with h2 | h2 <;> first | exact h2 | (exfalso; omega) | exact (hR1 q h2).elim id (fun h => by omega) | exact (hR1 q ((kf.hR q).2 (by omega))).elim id (fun h => by omega) | exact (kf.hR q).2 (by omega)) : Ch E a c := h.then h' hd
theorem inf3w105 : Inf prog 3 (.int .i64 0) 1 8 := ⟨Tryz.t3, type3, rfl, rfl, rfl⟩
theorem inf53w105 : Inf prog 53 (.agg #[.int .i64 0, .int .i64 0, .slice none 0 0]) 3 40 := ⟨Tryz.t53, type53, rfl, rfl, rfl⟩
theorem build53w105 {ps : List (Nat × Value)} {cs : Array Value} (h : Instr.fill (fun i => ([(0, 1), (1, 1), (2, 1)] : List (Nat × Nat))[i]?) #[.int .i64 0, .int .i64 0, .slice none 0 0] ps = some cs) (w : World) : (Instr.build 53 ps.toArray).run prog w = .ok (.agg cs) w := by
 simp [Instr.build, runUnderlying53, ζ53, ς3, ς51, Value.cells, h]
theorem build191w105 {ps : List (Nat × Value)} {cs : Array Value} (h : Instr.fill (fun i => ([(0, 1), (1, 1), (2, 1)] : List (Nat × Nat))[i]?) #[.slice none 0 0, .slice none 0 0, .slice none 0 0] ps = some cs) (w : World) : (Instr.build 191 ps.toArray).run prog w = .ok (.agg cs) w := by
 simp [Instr.build, runUnderlying191, zeroValue191, ς51, ς77, Value.cells, h]
theorem bld53_0_1_2w105 {v0 v1 v2 : Value} (h : [v0, v1, v2].all Value.oneCell' = true) : BLD prog 53 [(0, v0), (1, v1), (2, v2)] #[v0, v1, v2] := build53w105 (fill1 _ _ _ h rfl)
set_option maxHeartbeats 4000000 in
theorem cheapD_walk (kb base : Nat) (n : Int) (hn : 1 ≤ n) (hn2 : n ≤ 16384) (U : Nat → Prop) (FA : Option Addr) (fc : Nat) (R : Nat → Prop) (es : List KE) (w : World) (kn0 : Kn base kb R U es w) (sl0 : SlR (fun q => q < base) w FA 4 1 (PU.flies.map (.int .i64 ·))) (hU : ∀ q, U q → q < w.heap.size) (ih1 : ∀ a : Int, 2 ≤ a → a < n → n % a = 0 → CheapD kb base (n / a) ∧ mu (n / a) < mu n) (ih2 : hardM PU (facs n) n = true → CheapD kb base (up2 (2 * n - 1)) ∧ mu (up2 (2 * n - 1)) < mu n) :
  Calls prog 152 #[Kh kb, Kg n, .agg #[Kg 16, .slice FA 4 fc, Kg 13]] w (Ret (fun v w' => ∃ r A c R' es', v = .tuple #[ordV r.1 A c, Kg r.2] ∧ Best PU n r ∧ (-1 ≤ r.2 ∧ r.2 ≤ 4611686018427387905) ∧ RdK (SK base w'.heap.size R' U) w' A r.1.kids ∧ Kn base kb R' U es' w' ∧ (∀ q, R' q → R q ∨ w.heap.size ≤ q) ∧ (∀ e ∈ es', e ∈ es ∨ mu e.1 ≤ mu n) ∧ Ch R w w')) := by
 obtain ⟨s1, s2, s3, B1, B2, B3, d1, d2, d3, cs, kf⟩ := id kn0
 have bd0 := kn0.bd
 have lkb := (bd0.1 kb ((kf.hR kb).2 (.inl rfl))).2
 have hbk := bd0.2.2
 have ys1 := kf.o1.lt; have ys2 := kf.o2.lt; have ys3 := kf.o3.lt
 have hhl := heads_len PU n
 refine Ku func152 O ntmps152 O (Kb (Km (Cp O) O ?_))
 intro p1 w1 b5 c1 e1 z1
 refine Km (Ck ζ53) O ?_
 intro p2 w2 b6 c2 e2 z2
 refine Ww O O (Wz (Kb (Ww O O (Qf ?_))))
 refine Qa (Qt (Kf (σ := Nat) (fun i => [(0, Kh kb), (1, Kg n), (5, Kh p1), (6, Kh p2), (8, Kg i)]) (fun i w' => w2 = w' ∧ i ≤ es.length ∧ ∀ j, j < i → ¬ (es.getD j kd0).1 = n) (fun i => es.length - i) 0 ?_ ?_))
 · exact ⟨O, Nat.zero_le _, fun j h => absurd h (Nat.not_lt_zero _)⟩
 rintro i _ ⟨rfl, i1, hno⟩
 refine Qe (Kb (Wu O O (Wu O O (Om (Qq O) O (Om (Qh υ191 O ς77 O O O) O ?_)))))
 have bk_2 := kf.bk.keep (c1.trans c2)
 refine Om (Qg ι77 O (bk_2.cell O)) O (Om (Cs υ77 O) O (Om (Co O O) O (Ka (Qj O (fun hc1 => ?_) (fun hc1 => ?_)))))
 ·
  refine Qn (Qa (Qe (Qt (Kb (Wu O O (Om (Qq O) O ?_))))))
  refine Om (Qh υ191 O ς77 O O O) O (Om (Qg ι77 O (bk_2.cell O)) O (Wu O O ?_))
  have o1_2 := kf.o1.keep (c1.trans c2)
  refine Om (Qs υ77 ς3 O O (o1_2.sl.ne (by omega))) O (Om (Qg ι3 O (SlR.get (f := fun e : KE => Kg e.1) ((o1_2).sl) kd0 (by omega) (by omega))) O (Wu O O (Om (Cg O O) O (Ka (Qj O (fun hc2 => ?_) (fun hc2 => ?_))))))
  ·
   refine Qe ?_
   have hxi : es[i]? = some (es.getD i kd0) := by rw [List.getD, List.getElem?_eq_getElem (by omega)]; rfl
   obtain ⟨kA, kc, ka, krd⟩ := kf.kid hxi
   have oke := kf.ok _ (List.mem_of_getElem? hxi)
   refine Kj 15 [0, 2, 4, 6, 8, 10, 12, 14, 16, 18, 20, 22, 24, 26, 29] (Is p2) ?_
   intro w3 c3 z3
   have bk_3 := bk_2.keep c3
   have o1_3 := o1_2.keep c3
   have o2_3 := kf.o2.keep (c1.trans (c2.trans c3))
   have o3_3 := kf.o3.keep (c1.trans (c2.trans c3))
   have sl_3 := sl0.keep (c1.trans (c2.trans c3))
   have b5_3 := b5.keep (c2.trans c3)
   have b6_3 := b6.keep c3
   have ka_3 := ka.keep (c1.trans (c2.trans c3))
   refine Wv O O (Ws (Qq O) O (Ws (Qh υ191 O ς51 O O O) O (Wt (fun hS => Qg ι51 O ((bk_3.to hS).cell O)) O (Wv O O (Ws (Qs υ51 ς53 O O ((o2_3).sl.ne (by omega))) O ?_)))))
   refine Wt (fun hS => Qz ι53 ς53 O O (ka_3.to hS).1) O ?_
   refine Wv O O (Ws (Qq O) O (Ws (Qh υ191 O ς77 O O O) O (Wt (fun hS => Qg ι77 O ((bk_3.to hS).cell O)) O (Wv O O (Ws (Qs υ77 ς3 O O (o3_3.sl.ne (by omega))) O ?_)))))
   refine Wt (fun hS => Qg ι3 O (SlR.get (f := fun e : KE => Kg e.2.2) (((o3_3).to hS (by intro q h1 h2 hx h3; omega)).sl) kd0 (by omega) (by omega))) O ?_
   refine Kt (Cl ς53 O O O O b6_3) O ?_
   intro w4 c4 z4 b6_4
   have RD_4 : Ch (Is p2) w3 w4 := (Ch.refl (Is p2) w3).then c4
   refine ⟨RD_4, ?_⟩
   refine Cj (Ww O O (Qf (Ca (Qa (Qp (Cb (Qw ?_)))))))
   refine Qw (Cb (Qw (VQ.retct O O ι53 ς53 O (b6_4.all' O) O (Kx ?_))))
   have cc_0_4 : Ch No w w4 := (Ch.then (E := No) ((c1.and c2).and c3) c4)
   have krd_4 := krd.keep cc_0_4
   have CN_4 := (Ch.refl (fun q => w.heap.size ≤ q) w).and cc_0_4
   have CH_4 := (Ch.refl (R) w).and cc_0_4
   exact ⟨(es.getD i kd0).2, kA, kc, R, es, O, (by have h9 := oke.1; rwa [show (es.getD i kd0).1 = n from hc2] at h9), ⟨oke.2.1, oke.2.2.1⟩, (krd_4).weak (fun q h => ⟨⟨h.1.1, by have := h.1.2; omega⟩, h.2⟩), kn0.to CN_4 (fun q h1 h2 => by omega), fun _ => .inl, fun _ => .inl, CH_4⟩
  refine Qn (Ql (Qa (Qb (Wu O O ?_))))
  refine Om (Cd O O) O ?_
  refine Ww O O (Qf ?_)
  refine Ke (i + 1) ?_
  exact ⟨O, by omega, fun j hj => by by_cases e : j = i; (subst e; exact hc2); exact hno j (by omega)⟩
 refine Cn (Qk (Qk (Qy (Qa (Kb (Om (Ct O (build53w105 O)) O ?_))))))
 refine Km (Ck ζ53) O ?_
 intro p5 w5 b9 c5 e5 z5
 refine Ks (Cl ς53 O O O O b9) O ?_
 intro w6 c6 z6 b9_6
 refine Ww O O (Wz ?_)
 have hnew0 : ∀ x ∈ es, ¬ x.1 = n := fun x hx => by obtain ⟨j, hj, e⟩ := List.mem_iff_getElem.1 hx; have := hno j (by omega); rwa [List.getD, List.getElem?_eq_getElem hj, Option.getD_some, e] at this
 have kn9 := kn0.less (U' := UX9 U w.heap.size p5) (fun q h h2 => h2.elim id (fun h => by omega))
 refine Qb (Wu O O ?_)
 have cc_1_6 : Ch No w1 w6 := (Ch.then (E := No) (c2.and c5) c6)
 have b5_6 := b5.keep cc_1_6
 refine Om (Qz ι79 ς79 O O (b5_6.all' O)) O ?_
 have cc_0_6 : Ch No w w6 := (Ch.then (E := No) ((c1.and c2).and c5) c6)
 have sl_6 := sl0.keep cc_0_6
 refine Oq (Qi call182 O (ref14_leaves n _ _ _ _ sl_6 (fun q hq => by omega))) O ?_
 rintro _ w7 ⟨hA7, hk7, rfl, hd7, c7⟩
 have z7 := c7.size
 refine Ww O O (Wz (Kb (Ww O O (Qf ?_))))
 refine Qa (Qt ?_)
 have b9_7 := b9_6.keep c7
 have cc_0_7 : Ch No w w7 := ((Ch.then (E := No) ((c1.and c2).and c5) c6).and c7)
 have kn_7 := kn9.keep cc_0_7
 have b5_7 := b5_6.keep c7
 have cc_2_7 : Ch No w2 w7 := ((Ch.then (E := No) c5 c6).and c7)
 have b6_7 := b6.keep cc_2_7
 have sl_7 := sl_6.keep c7
 have CH_7 := (Ch.refl (R) w).and cc_0_7
 refine Kf (σ := Nat × (Ord × Int) × Option Addr × Nat) (fun (i, b, B, e) => [(0, Kh kb), (1, Kg n), (5, Kh p1), (6, Kh p2), (9, Kh p5), (10, Kg b.2), (11, .slice hA7 (headsM PU n).length hk7), (12, Kg i)]) (fun (i, b, B, e) w' => i ≤ (headsM PU n).length ∧ b = bestI PU n i ∧ (-1 ≤ b.2 ∧ b.2 ≤ 4611686018427387905) ∧ w7.heap.size ≤ w'.heap.size ∧ Bk w' p5 (ordV b.1 B e).cells 53 ∧ RdK (SK base w'.heap.size R (UX9 U w.heap.size p5)) w' B b.1.kids ∧ Kn base kb R (UX9 U w.heap.size p5) es w' ∧ RdK (In w6.heap.size w7.heap.size) w' hA7 (headsM PU n) ∧ CD base p1 p2 n FA fc w' ∧ Ch R w w') (fun (i, b, B, e) => (headsM PU n).length - i) (0, (.mk 0 0 [], -1), none, 0) ?_ ?_
 · exact ⟨Nat.zero_le _, O, by decide, Nat.le_refl _, b9_7, RdK.nil _ _, kn_7, hd7, ⟨b5_7, b6_7, sl_7⟩, CH_7⟩
 rintro ⟨i, b, B, e⟩ w8 ⟨i1, hbi, ibd, hsz2, b9_8, rk_8, kn_8, hd_8, cd, CH_8⟩
 have b5_8 := cd.b5; have b6_8 := cd.b6; have sl_8 := cd.sl
 have hR1 : ∀ q, R q → R q ∨ p5 < q := fun _ => .inl
 have hRx : ∀ q, R q → q < w.heap.size ∨ p5 < q := fun q h => (hR1 q h).imp (fun h => (bd0.1 q h).2) id
 refine Qe (Kb (Wu O O (Wu O O (Om (Cs υ51 O) O (Om (Co O O) O (Qf ?_))))))
 refine Qa (Qj O (fun hc3 => ?_) (fun hc3 => ?_))
 ·
  refine Qn (Qa (Qe (Qt (Qe ?_))))
  obtain ⟨ko, hko⟩ : ∃ ko, (headsM PU n)[i]? = some ko := ⟨_, List.getElem?_eq_getElem (by omega)⟩
  obtain ⟨kA, kc, ka, kr⟩ := hd_8.kid hko
  obtain ⟨h1k, h2k, h3k⟩ := mem_heads (List.mem_of_getElem? hko)
  obtain ⟨kk, kn9, kks⟩ := ko
  simp only [Ord.kind, Ord.n, Ord.kids] at h1k h2k h3k
  subst h3k
  subst kn9
  have hlc := lcost_bd (k := kk) (n := n)
  refine Qb (Wu O O (Wu O O (Om (Qs υ51 ς53 O O (hd_8.ne (by omega))) O (Om (Qz ι53 ς53 O O ka.1) O (Oq (Qi call183 O (ref14_cost kk n _ _ _ h1k)) O ?_)))))
  rintro _ w9 ⟨rfl, c9⟩
  have z9 := c9.size
  refine Wu O O (Om (Qu O O) O (Om (Qu O O) O (Ww O O (Ww O O (Wz ?_)))))
  refine Qb (Wu O O (Om (Co O O) O (Wu O O ?_)))
  refine Cz (b := _) 4 80 84 O (fun hc4 Jhc4 => by
    refine Oy O (Oy O (Oy O (Om (Qr O O) O ?_)))
    exact (Qo O (Qo O (Qo O Jhc4)))) (fun hc4 Jhc4 => by
    try simp only [bX] at hc4
    refine Wu O O (Wu O O (Om (Co O O) O (Om (Qm O O) O ?_)))
    exact (Qo O (Qo O (Qo O Jhc4)))) ?_
  refine Ka (Cq O (fun hc5 => ?_) (fun hc5 => ?_))
  ·
   try simp only [bX] at hc5
   refine Qb (Wu O O (Wu O O ?_))
   have hd_9 := hd_8.keep c9
   refine Om (Qs υ51 ς53 O O (hd_9.ne (by omega))) O ?_
   have ka_9 := ka.keep c9
   refine Om (Qz ι53 ς53 O O ka_9.1) O (Wu O O ?_)
   have b9_9 := b9_8.keep c9
   refine Ks (Cl ς53 O O O O b9_9) O ?_
   intro w10 c10 z10 b9_10
   refine Ww O O (Qf (Ql (Qa (Qb (Wu O O ?_)))))
   refine Om (Cd O O) O ?_
   refine Ww O O (Qf ?_)
   refine Ke (i + 1, (.mk kk n [], lcost kk n), kA, kc) ?_
   have hbs := bestI_succ hko
   have hb9 : offerM b (.mk kk n []) (lcost kk n) = (.mk kk n [], lcost kk n) := by unfold offerM; exact if_pos (show b.2 < 0 ∨ lcost kk n < b.2 by omega)
   rw [← hbi] at hbs
   have kr_9 := kr.keep c9
   have kr_10 := kr_9.tK c10
   have kn_9 := kn_8.keep c9
   have kn_10 := kn_9.tK c10
   have hd_10 := hd_9.tK c10
   have b5_9 := b5_8.keep c9
   have b5_10 := b5_9.tK c10
   have b6_9 := b6_8.keep c9
   have b6_10 := b6_9.tK c10
   have sl_9 := sl_8.keep c9
   have sl_10 := sl_9.tK c10
   have CH_9 := CH_8.and c9
   have CH_10 : Ch (R) w w10 := CH_9.tH c10
   exact ⟨by omega, (hbs.trans hb9).symm, ⟨by have := hlc.1; show -1 ≤ lcost kk n; omega, Int.le_trans hlc.2 (by decide)⟩, by omega, b9_10, (kr_10).weak (fun q h => ⟨⟨by omega, by omega⟩, fun h3 => by have := bd0.1 q h3; omega, fun h3 => by rcases h3 with h3 | h3; (have := hU q h3; omega); omega⟩), kn_10, hd_10, ⟨b5_10, b6_10, sl_10⟩, CH_10⟩
  try simp only [bX] at hc5
  refine Qn (Ql (Qa (Qb (Wu O O ?_))))
  refine Om (Cd O O) O ?_
  refine Ww O O (Qf ?_)
  refine Ke (i + 1, b, B, e) ?_
  have hbs := bestI_succ hko
  have hb9 : offerM b (.mk kk n []) (lcost kk n) = b := by unfold offerM; exact if_neg (show ¬ (b.2 < 0 ∨ lcost kk n < b.2) by omega)
  rw [← hbi] at hbs
  have b9_9 := b9_8.keep c9
  have rk_9 := rk_8.keep c9
  have kn_9 := kn_8.keep c9
  have hd_9 := hd_8.keep c9
  have b5_9 := b5_8.keep c9
  have b6_9 := b6_8.keep c9
  have sl_9 := sl_8.keep c9
  have CH_9 := CH_8.and c9
  exact ⟨by omega, (hbs.trans hb9).symm, ibd, by omega, b9_9, (rk_9).weak (SK.up (by omega) (fun _ => .inl) fun _ _ => id), kn_9, hd_9, ⟨b5_9, b6_9, sl_9⟩, CH_9⟩
 refine Cn (Qk (Qk (Qy (Qa (Qe (Kb ?_))))))
 refine Ww O O (Ka (Qt (Kf (σ := Nat × (Ord × Int) × Option Addr × Nat × (Nat → Prop) × List KE) (fun (a, b, B, e, R1, es1) => [(0, Kh kb), (1, Kg n), (5, Kh p1), (6, Kh p2), (9, Kh p5), (10, Kg b.2), (15, Kg a)]) (fun (a, b, B, e, R1, es1) w' => 2 ≤ a ∧ (a = 2 ∨ (a : Int) ≤ n) ∧ GoB PU n (upGo n (a - 1)) b ∧ (-1 ≤ b.2 ∧ b.2 ≤ 4611686018427387905) ∧ (∀ q, R1 q → R q ∨ p5 < q) ∧ (∀ x ∈ es1, x ∈ es ∨ mu x.1 < mu n) ∧ w8.heap.size ≤ w'.heap.size ∧ Bk w' p5 (ordV b.1 B e).cells 53 ∧ RdK (SK base w'.heap.size R1 (UX9 U w.heap.size p5)) w' B b.1.kids ∧ Kn base kb R1 (UX9 U w.heap.size p5) es1 w' ∧ CD base p1 p2 n FA fc w' ∧ Ch R w w') (fun (a, b, B, e, R1, es1) => n.toNat - a) (2, b, B, e, R, es) ?_ ?_)))
 · exact ⟨Nat.le_refl _, .inl O, by rw [hbi, show i = (headsM PU n).length by omega, bestI_all]; exact GoB.two _ _, ibd, fun _ => .inl, fun _ => .inl, Nat.le_refl _, b9_8, rk_8, kn_8, ⟨b5_8, b6_8, sl_8⟩, CH_8⟩
 rintro ⟨a, b, B, e, R1, es1⟩ w11 ⟨ha2, han, hgo, hbd, hR1, hes1, hsz, b9_11, rk_11, kn_11, cd, CH_11⟩
 have b5_11 := cd.b5; have b6_11 := cd.b6; have sl_11 := cd.sl
 have hRb := kn_11.bd
 have hRx : ∀ q, R1 q → q < w.heap.size ∨ p5 < q := fun q h => (hR1 q h).imp (fun h => (bd0.1 q h).2) id
 have hUL : ∀ q, UX9 U w.heap.size p5 q → q < w11.heap.size := fun q h => by rcases h with h | h; (have := hU q h; omega); omega
 have hq9 : n / (a : Int) = n / (a : Int) := rfl
 refine Qe (Kb (Wu O O (Wu O O (Om (Co O O) O (Ka ?_)))))
 refine Qj O (fun hc6 => ?_) (fun hc6 => ?_)
 ·
  refine Qn (Qa (Qe (Qt (Qe (Kb (Wu O O ?_))))))
  refine Wu O O (Om (Rq O O) O (Om (Wd O O) O (Ka (Qj O (fun hc7 => ?_) (fun hc7 => ?_)))))
  ·
   refine Cn (Qk (Qy (Qa (Qb (Wu O O ?_)))))
   refine Om (Cd O O) O ?_
   refine Ww O O (Qf ?_)
   refine Ke (a + 1, b, B, e, R1, es1) ?_
   exact ⟨by omega, by omega, by rw [up_no (by omega) (show ¬ n % (a : Int) = 0 by omega)]; exact hgo, hbd, hR1, hes1, by omega, b9_11, rk_11, kn_11, ⟨b5_11, b6_11, sl_11⟩, CH_11⟩
  refine Qn (Qa (Qe ?_))
  have hmd : n % (a : Int) = 0 := by omega
  have hqd := divE_ok (n := n) (d := (a : Int)) hn (by omega) hmd
  have hhl2 := heads_len PU (a : Int)
  refine Qb (Wu O O (Om (Qz ι79 ς79 O O (b5_11.all' O)) O (Oq (Qi call182 O (ref14_leaves (a : Int) _ _ _ _ sl_11 (fun q hq => by omega))) O ?_)))
  rintro _ w12 ⟨hA12, hk12, rfl, hd12, c12⟩
  have z12 := c12.size
  refine Ww O O (Wz (Kb (Wu O O (Om (Cs υ51 O) O ?_))))
  refine Om (Cg O O) O (Ka (Qj O (fun hc8 => ?_) (fun hc8 => ?_)))
  ·
   refine Cn (Qk (Qy (Qa (Qb (Wu O O ?_)))))
   refine Om (Cd O O) O ?_
   refine Ww O O (Qf ?_)
   refine Ke (a + 1, b, B, e, R1, es1) ?_
   have b9_12 := b9_11.keep c12
   have rk_12 := rk_11.keep c12
   have kn_12 := kn_11.keep c12
   have b5_12 := b5_11.keep c12
   have b6_12 := b6_11.keep c12
   have sl_12 := sl_11.keep c12
   have CH_12 := CH_11.and c12
   exact ⟨by omega, by omega, by rw [up_yes (by omega) hmd]; exact hgo.skip (.inr (show headsM PU (a : Int) = [] from List.eq_nil_of_length_eq_zero (by omega))), hbd, hR1, hes1, by omega, b9_12, (rk_12).weak (SK.up (by omega) (fun _ => .inl) fun _ _ => id), kn_12, ⟨b5_12, b6_12, sl_12⟩, CH_12⟩
  refine Qn (Qa (VC.cut (σ := (Ord × Int) × Option Addr × Nat × (Nat → Prop) × List KE × Nat) (fun (r, rA, rc, R2, es2, pb) => [(0, Kh kb), (1, Kg n), (5, Kh p1), (6, Kh p2), (9, Kh p5), (10, Kg b.2), (15, Kg a), (16, .slice hA12 (headsM PU (a : Int)).length hk12), (17, Kh pb), (18, Kg r.2)]) (fun (r, rA, rc, R2, es2, pb) w' => Best PU (n / (a : Int)) r ∧ (-1 ≤ r.2 ∧ r.2 ≤ 4611686018427387905) ∧ (∀ q, R2 q → R1 q ∨ w12.heap.size ≤ q) ∧ (∀ x ∈ es2, x ∈ es1 ∨ mu x.1 ≤ mu (n / (a : Int))) ∧ w12.heap.size ≤ pb ∧ w12.heap.size ≤ w'.heap.size ∧ Bk w' pb (ordV r.1 rA rc).cells 53 ∧ RdK (SK base w'.heap.size R2 (UX9 U w.heap.size p5)) w' rA r.1.kids ∧ Bk w' p5 (ordV b.1 B e).cells 53 ∧ RdK (SK base w12.heap.size R1 (UX9 U w.heap.size p5)) w' B b.1.kids ∧ Kn base kb R2 (UX9 U w.heap.size p5) es2 w' ∧ RdK (In w11.heap.size w12.heap.size) w' hA12 (headsM PU (a : Int)) ∧ CD base p1 p2 n FA fc w' ∧ Ch R w w') ?_ ?_))
  ·
   obtain ⟨WB, hWB⟩ : ∃ x, x = w12.heap.size := ⟨_, rfl⟩
   have kn_12 := kn_11.keep c12
   have knF := (kn_12).less (U' := fun y => (UX9 U w.heap.size p5) y ∨ WB ≤ y) (fun q h h2 => h2.elim id (fun h => by omega))
   refine Wj 11 (.mv 0 (.mv 1 (.mv 2 (.mv 3 (.mv 4 (.two 5 (.mv 6 (.mv 7 (.mv 8 (.wk 9 (.wk 10 .nil))))) 9 (.wk 5 (.mv 6 (.mv 7 (.mv 8 (.wk 10 .nil))))))))))) (fun w1 w' => Ch (R1) w1 w') mixed (by kernel_rfl) (fun _ _ => Ch.refl _ _) ?_
   intro w13 D13
   have c13 := Ch.of_drew D13; have z13 := c13.size
   have sl_13 := sl_11.keep (c12.trans c13)
   have b5_13 := b5_11.keep (c12.trans c13)
   have b6_13 := b6_11.keep (c12.trans c13)
   have b9_13 := b9_11.keep (c12.trans c13)
   refine Rc (fun w' hS => Qc O) O O O O (Rc (fun w' hS => Qc O) O O O O (Rc (fun w' hS => Qc O) O O O O (Rc (fun w' hS => Wc O O (by omega) (by omega) (by omega)) O O O O (Rc (fun w' hS => Qz ι79 ς79 O O ((b5_13.tK hS).all' O)) O O O O (Wl ?_ ?_)))))
   ·
    have knF_13 := knF.keep c13
    refine Rs (Qi call152 O ((ih1 (a : Int) (by omega) (by omega) hmd).1 (fun q => (UX9 U w.heap.size p5) q ∨ (WB ≤ q ∧ q < w13.heap.size)) FA fc R1 es1 _ ((knF_13).less (fun q _ h => h.imp id (fun h => h.1))) sl_13 (fun q h => by rcases h with h | h; exact Nat.lt_of_lt_of_le (hUL q h) (by omega); exact h.2))) O O O O ?_
    rintro _ w14 ⟨r, rA, rc, R2, es2, rfl, hr1, hrb, rko, kno, hR2, hes2, c14⟩
    have z14 := c14.size
    have RD_14 : Ch (R1) w13 w14 := (Ch.refl (R1) w13).then c14
    refine ⟨RD_14, ?_⟩
    refine Rc (fun w' hS => Qc O) O O O O (Rc (fun w' hS => Qu O O) O O O O (Rc (fun w' hS => Qu O O) O O O O (Rs (Ck ζ53) O O O O ?_)))
    rintro _ w15 ⟨p15, rfl, N15⟩
    have c15 := N15.ch
    have e15 := N15.p; have z15 := N15.size
    have b17 := Bk.new N15
    have RD_15 := RD_14.and c15
    refine ⟨RD_15, ?_⟩
    refine Wm (Cl ς53 O O O O b17) O O O ?_
    intro _ w16 Z16
    obtain ⟨c16, z16⟩ := Z16.cz
    have b17_16 := Bk.put Z16
    have RD_16 : Ch (R1) w13 w16 := RD_15.then c16
    refine ⟨RD_16, ?_⟩
    refine Rr (Ww O O (Qf (Ca (Rt (r, rA, rc, R2, es2, p15) ?_ ⟨O, O, O, O, O, O, O, O, O, O, trivial⟩))))
    have cc_14_16 : Ch No w14 w16 := (Ch.then (E := No) c15 c16)
    have rko_16 := rko.keep cc_14_16
    have b9_14 := b9_13.tK c14
    have b9_16 := b9_14.keep cc_14_16
    have rk_13 := rk_11.keep (c12.trans c13)
    have rk_14 := rk_13.tK c14
    have rk_16 := rk_14.keep cc_14_16
    have kn_16 := kno.keep cc_14_16
    have hd_13 := hd12.keep c13
    have hd_14 := hd_13.tK c14
    have hd_16 := hd_14.keep cc_14_16
    have b5_14 := b5_13.tK c14
    have b5_16 := b5_14.keep cc_14_16
    have b6_14 := b6_13.tK c14
    have b6_16 := b6_14.keep cc_14_16
    have sl_14 := sl_13.tK c14
    have sl_16 := sl_14.keep cc_14_16
    have CH_13 := CH_11.and (c12.trans c13)
    have CH_14 : Ch (R) w w14 := CH_13.tH c14
    have CH_16 := CH_14.and cc_14_16
    exact ⟨hr1, hrb, fun q h => (hR2 q h).imp id (fun h => by omega), hes2, by omega, by omega, b17_16, (rko_16).weak (SK.up (by omega) (fun _ => .inl) (fun q _ h => .inl h)), b9_16, (rk_16).weak (SK.up (by omega) (fun _ => .inl) fun _ _ => id), (kn_16).less (fun q _ h => .inl h), hd_16, ⟨b5_16, b6_16, sl_16⟩, CH_16⟩
   refine Rs (Ck ζ53) O O O O ?_
   rintro _ w17 ⟨p17, rfl, N17⟩
   have c17 := N17.ch
   have e17 := N17.p; have z17 := N17.size
   have b17 := Bk.new N17
   have RD_17 := (Ch.refl (R1) w13).and c17
   refine ⟨RD_17, ?_⟩
   have knF_17 := knF.keep (c13.trans c17)
   have sl_17 := sl_13.keep c17
   refine Rs (Qi call152 O ((ih1 (a : Int) (by omega) (by omega) hmd).1 (fun q => (UX9 U w.heap.size p5) q ∨ (WB ≤ q ∧ q < w17.heap.size)) FA fc R1 es1 _ ((knF_17).less (fun q _ h => h.imp id (fun h => h.1))) sl_17 (fun q h => by rcases h with h | h; exact Nat.lt_of_lt_of_le (hUL q h) (by omega); exact h.2))) O O O O ?_
   rintro _ w18 ⟨r, rA, rc, R2, es2, rfl, hr1, hrb, rko, kno, hR2, hes2, c18⟩
   have z18 := c18.size
   have RD_18 : Ch (R1) w13 w18 := RD_17.then c18
   refine ⟨RD_18, ?_⟩
   refine Rc (fun w' hS => Qc O) O O O O (Rc (fun w' hS => Qu O O) O O O O (Rc (fun w' hS => Qu O O) O O O O ?_))
   have b17_18 := b17.tK c18
   refine Wm (Cl ς53 O O O O b17_18) O O O ?_
   intro _ w19 Z19
   obtain ⟨c19, z19⟩ := Z19.cz
   have b17_19 := Bk.put Z19
   have RD_19 : Ch (R1) w13 w19 := RD_18.then c19
   refine ⟨RD_19, ?_⟩
   refine Rr (Ww O O (Qf (Ca (Rt (r, rA, rc, R2, es2, p17) ?_ ⟨O, O, O, O, O, O, O, O, O, O, trivial⟩))))
   have rko_19 := rko.tK c19
   have b9_17 := b9_13.keep c17
   have b9_18 := b9_17.tK c18
   have b9_19 := b9_18.tK c19
   have rk_17 := rk_11.keep (c12.trans (c13.trans c17))
   have rk_18 := rk_17.tK c18
   have rk_19 := rk_18.tK c19
   have kn_19 := kno.tK c19
   have hd_17 := hd12.keep (c13.trans c17)
   have hd_18 := hd_17.tK c18
   have hd_19 := hd_18.tK c19
   have b5_17 := b5_13.keep c17
   have b5_18 := b5_17.tK c18
   have b5_19 := b5_18.tK c19
   have b6_17 := b6_13.keep c17
   have b6_18 := b6_17.tK c18
   have b6_19 := b6_18.tK c19
   have sl_18 := sl_17.tK c18
   have sl_19 := sl_18.tK c19
   have CH_17 := CH_11.and (c12.trans (c13.trans c17))
   have CH_18 : Ch (R) w w18 := CH_17.tH c18
   have CH_19 : Ch (R) w w19 := CH_18.tH c19
   exact ⟨hr1, hrb, fun q h => (hR2 q h).imp id (fun h => by omega), hes2, by omega, by omega, b17_19, (rko_19).weak (SK.up (by omega) (fun _ => .inl) (fun q _ h => .inl h)), b9_19, (rk_19).weak (SK.up (by omega) (fun _ => .inl) fun _ _ => id), (kn_19).less (fun q _ h => .inl h), hd_19, ⟨b5_19, b6_19, sl_19⟩, CH_19⟩
  rintro ⟨r, rA, rc, R2, es2, pb⟩ w20 ⟨hr1, hrb, hR2, hes2, hpb, hszb, b17_20, rko_20, b9_20, rk_20, kn_20, hd_20, cd, CH_20⟩
  have b5_20 := cd.b5; have b6_20 := cd.b6; have sl_20 := cd.sl
  have hR3 : ∀ q, R2 q → R q ∨ p5 < q := fun q h => (hR2 q h).elim (hR1 q) (fun h => .inr (by omega))
  have hes3 : ∀ x ∈ es2, x ∈ es ∨ mu x.1 < mu n := fun x hx => (hes2 x hx).elim (hes1 x) (fun h => .inr (by have := (ih1 (a : Int) (by omega) (by omega) hmd).2; omega))
  have hRh : ∀ q, In w11.heap.size w12.heap.size q → ¬ R2 q := fun q h h3 => by rcases hR2 q h3 with h3 | h3; (have := hRb.1 q h3; omega); omega
  refine Kb (Ww O O (Ka (Qt (Kf (σ := Nat × (Ord × Int) × Option Addr × Nat) (fun (i, b2, B2, e2) => [(0, Kh kb), (1, Kg n), (5, Kh p1), (6, Kh p2), (9, Kh p5), (10, Kg b2.2), (15, Kg a), (16, .slice hA12 (headsM PU (a : Int)).length hk12), (17, Kh pb), (18, Kg r.2), (19, Kg i)]) (fun (i, b2, B2, e2) w' => i ≤ (headsM PU (a : Int)).length ∧ b2 = bestJ PU n (a : Int) r b i ∧ (-1 ≤ b2.2 ∧ b2.2 ≤ 4611686018427387905) ∧ w20.heap.size ≤ w'.heap.size ∧ Bk w' p5 (ordV b2.1 B2 e2).cells 53 ∧ RdK (SK base w'.heap.size R2 (UX9 U w.heap.size p5)) w' B2 b2.1.kids ∧ Bk w' pb (ordV r.1 rA rc).cells 53 ∧ RdK (SK base w'.heap.size R2 (UX9 U w.heap.size p5)) w' rA r.1.kids ∧ Kn base kb R2 (UX9 U w.heap.size p5) es2 w' ∧ RdK (In w11.heap.size w12.heap.size) w' hA12 (headsM PU (a : Int)) ∧ CD base p1 p2 n FA fc w' ∧ Ch R w w') (fun (i, b2, B2, e2) => (headsM PU (a : Int)).length - i) (0, b, B, e) ?_ ?_))))
  · exact ⟨Nat.zero_le _, O, hbd, Nat.le_refl _, b9_20, (rk_20).weak (SK.up (by omega) (fun q h => (hR2 q h).imp id (fun h => by omega)) fun _ _ => id), b17_20, (rko_20).weak (SK.up (by omega) (fun _ => .inl) fun _ _ => id), kn_20, hd_20, ⟨b5_20, b6_20, sl_20⟩, CH_20⟩
  rintro ⟨i, b2, B2, e2⟩ w21 ⟨i1, hb2, ibd2, hsz6, b9_21, rk_21, b17_21, rko_21, kn_21, hd_21, cd, CH_21⟩
  have b5_21 := cd.b5; have b6_21 := cd.b6; have sl_21 := cd.sl
  have hRx : ∀ q, R2 q → q < w.heap.size ∨ p5 < q := fun q h => (hR3 q h).imp (fun h => (bd0.1 q h).2) id
  have hR6 := kn_21.bd
  refine Qe (Kb (Wu O O (Wu O O (Om (Cs υ51 O) O (Om (Co O O) O (Wu O O ?_))))))
  refine Re (b := _) 3 118 121 O (fun hc9 Jhc9 => by
    try simp only [bX] at hc9
    refine Wu O O (Om (Ry O O) O (Om (Qr O O) O ?_))
    exact (Qo O (Qo O Jhc9))) (fun hc9 Jhc9 => by
    refine Oy O (Oy O (Om (Qm O O) O ?_))
    exact (Qo O (Qo O Jhc9))) ?_
  refine Ka (Cq O (fun hc10 => ?_) (fun hc10 => ?_))
  ·
   try simp only [bX] at hc10
   refine Qn (Qa (Qe (Qt (Qe ?_))))
   obtain ⟨ko, hko⟩ : ∃ ko, (headsM PU (a : Int))[i]? = some ko := ⟨_, List.getElem?_eq_getElem (by omega)⟩
   obtain ⟨kA, kc, ka, kr⟩ := hd_21.kid hko
   obtain ⟨h1k, h2k, h3k⟩ := mem_heads (List.mem_of_getElem? hko)
   obtain ⟨kk, kn9, kks⟩ := ko
   simp only [Ord.kind, Ord.n, Ord.kids] at h1k h2k h3k
   subst h3k
   subst kn9
   have hlc := lcost_bd (k := kk) (n := (a : Int))
   have hct := timesC_bd (a := (a : Int)) (b := n / (a : Int)) (ca := lcost kk (a : Int)) (cb := r.2) (f := decide (kk = 2))
   refine Qb (Wu O O (Wu O O (Om (Qs υ51 ς53 O O (hd_21.ne (by omega))) O (Om (Qz ι53 ς53 O O ka.1) O (Oq (Qi call183 O (ref14_cost kk (a : Int) _ _ _ h1k)) O ?_)))))
   rintro _ w22 ⟨rfl, c22⟩
   have z22 := c22.size
   refine Wu O O (Om (Qu O O) O (Om (Qu O O) O (Ww O O (Ww O O (Wz ?_)))))
   refine Kj 12 [0, 2, 4, 6, 8, 10, 12, 14, 16, 18, 20, 23] (No) ?_
   intro w23 c23 z23
   have sl_23 := sl_21.keep (c22.trans c23)
   have b5_23 := b5_21.keep (c22.trans c23)
   have b6_23 := b6_21.keep (c22.trans c23)
   have b9_23 := b9_21.keep (c22.trans c23)
   have b17_23 := b17_21.keep (c22.trans c23)
   have ka_23 := ka.keep (c22.trans c23)
   refine Wv O O (Wv O O ?_)
   have hd_23 := hd_21.keep (c22.trans c23)
   refine Ws (Qs υ51 ς53 O O (hd_23.ne (by omega))) O (Ws (Rn.fieldA υ53 O ς3 O O O) O (Wt (fun hS => Qg ι3 O ((ka_23.keep hS).1 0 _ O)) O (Wv O O (Wv O O (Wv O O (Wv O O (Wv O O ?_)))))))
   refine Ws (Wc O O (by omega) (by omega) (by omega)) O (Hq (Qi call184 O (ref14_times kk (a : Int) (n / (a : Int)) (lcost kk (a : Int)) r.2 _ h1k)) O ?_)
   rintro _ _ ⟨rfl, rfl⟩
   refine ⟨(Ch.refl (No) w23), ?_⟩
   refine Cj (Ww O O (Qf (Ca (Qa (Kb (Wu O O ?_))))))
   refine Om (Co O O) O (Wu O O ?_)
   refine Cz (b := _) 4 146 150 O (fun hc11 Jhc11 => by
     refine Oy O (Oy O (Oy O (Om (Qr O O) O ?_)))
     exact (Qo O (Qo O (Qo O Jhc11)))) (fun hc11 Jhc11 => by
     try simp only [bX] at hc11
     refine Wu O O (Wu O O (Om (Co O O) O (Om (Qm O O) O ?_)))
     exact (Qo O (Qo O (Qo O Jhc11)))) ?_
   refine Ka (Cq O (fun hc12 => ?_) (fun hc12 => ?_))
   ·
    try simp only [bX] at hc12
    refine Kj 8 [0, 2, 4, 6, 8, 12, 11, 15] (Is p5) ?_
    intro w24 c24 z24
    have sl_24 := sl_23.keep c24
    have b5_24 := b5_23.keep c24
    have b6_24 := b6_23.keep c24
    have b9_24 := b9_23.keep c24
    have b17_24 := b17_23.keep c24
    have ka_24 := ka_23.keep c24
    refine Wv O O (Wv O O ?_)
    have hd_24 := hd_23.keep c24
    refine Ws (Qs υ51 ς53 O O (hd_24.ne (by omega))) O (Wt (fun hS => Qz ι53 ς53 O O (ka_24.tK hS).1) O (Wt (fun hS => Qz ι53 ς53 O O ((b17_24.tK hS).all' O)) O (Wv O O ?_)))
    have kr_24 := kr.keep (c22.trans (c23.trans c24))
    have rko_24 := rko_21.keep (c22.trans (c23.trans c24))
    refine Hq (Qi call185 O (ref14_both (.mk kk (a : Int) []) r.1 _ _ _ _ _ _ _ kr_24 (fun q h => by omega) rko_24 (fun q h => by have := h.1.2; omega))) O ?_
    rintro _ w25 ⟨nA25, nc25, rfl, kb25, c25⟩
    have z25 := c25.size
    have nk25 : RdK (SK base w25.heap.size R2 (UX9 U w.heap.size p5)) w25 nA25 [.mk kk (a : Int) [], r.1] := kb25.weak (fun q h => by rcases h with h | h | h; exact ⟨⟨by omega, by omega⟩, hRh q h, fun h3 => by have := hUL q h3; omega⟩; exact SK.up (by omega) (fun _ => .inl) (fun _ _ => id) q h; exact ⟨⟨by omega, by omega⟩, fun h3 => by have := hR6.1 q h3; omega, fun h3 => by have := hUL q h3; omega⟩)
    have RD_25 := (Ch.refl (Is p5) w24).and c25
    refine ⟨RD_25, ?_⟩
    have b9_25 := b9_24.keep c25
    refine Kt (Cl ς53 O O O O b9_25) O ?_
    intro w26 c26 z26 b9_26
    have RD_26 : Ch (Is p5) w24 w26 := RD_25.then c26
    refine ⟨RD_26, ?_⟩
    refine Cj (Ww O O (Qf (Ca (Ql (Qa (Qb (Wu O O ?_)))))))
    refine Om (Cd O O) O ?_
    refine Ww O O (Qf ?_)
    refine Ke (i + 1, (.mk 3 0 [.mk kk (a : Int) [], r.1], timesC (a : Int) (n / (a : Int)) (lcost kk (a : Int)) r.2 (decide (kk = 2))), nA25, nc25) ?_
    have hbs := bestJ_succ (n := n) (r := r) (b := b) hko
    have hbo : offerH n (a : Int) r b2 (.mk kk (a : Int) []) = (.mk 3 0 [.mk kk (a : Int) [], r.1], timesC (a : Int) (n / (a : Int)) (lcost kk (a : Int)) r.2 (decide (kk = 2))) := by unfold offerH; rw [if_pos (by omega)]; unfold offerM; exact if_pos (show b2.2 < 0 ∨ timesC (a : Int) (n / (a : Int)) (lcost kk (a : Int)) r.2 (decide (kk = 2)) < b2.2 by omega)
    have nk_26 := nk25.tK c26
    have b17_25 := b17_24.keep c25
    have b17_26 := b17_25.tK c26
    have rko_25 := rko_24.keep c25
    have rko_26 := rko_25.tK c26
    have kn_25 := kn_21.keep (c22.trans (c23.trans (c24.trans c25)))
    have kn_26 := kn_25.tK c26
    have hd_25 := hd_24.keep c25
    have hd_26 := hd_25.tK c26
    have b5_25 := b5_24.keep c25
    have b5_26 := b5_25.tK c26
    have b6_25 := b6_24.keep c25
    have b6_26 := b6_25.tK c26
    have sl_25 := sl_24.keep c25
    have sl_26 := sl_25.tK c26
    have CH_25 := CH_21.and (c22.trans (c23.trans (c24.trans c25)))
    have CH_26 : Ch (R) w w26 := CH_25.tH c26
    exact ⟨by omega, by rw [hbs, ← hb2]; exact hbo.symm, by exact ⟨by have := hct.1; omega, hct.2⟩, by omega, b9_26, (nk_26).weak (SK.up (by omega) (fun _ => .inl) fun _ _ => id), b17_26, (rko_26).weak (SK.up (by omega) (fun _ => .inl) fun _ _ => id), kn_26, hd_26, ⟨b5_26, b6_26, sl_26⟩, CH_26⟩
   try simp only [bX] at hc12
   refine Qn (Ql (Qa (Qb (Wu O O ?_))))
   refine Om (Cd O O) O ?_
   refine Ww O O (Qf ?_)
   refine Ke (i + 1, b2, B2, e2) ?_
   have hbs := bestJ_succ (n := n) (r := r) (b := b) hko
   have hbo : offerH n (a : Int) r b2 (.mk kk (a : Int) []) = b2 := by unfold offerH; rw [if_pos (by omega)]; unfold offerM; exact if_neg (show ¬ (b2.2 < 0 ∨ timesC (a : Int) (n / (a : Int)) (lcost kk (a : Int)) r.2 (decide (kk = 2)) < b2.2) by omega)
   have rk_23 := rk_21.keep (c22.trans c23)
   have rko_23 := rko_21.keep (c22.trans c23)
   have kn_23 := kn_21.keep (c22.trans c23)
   have CH_23 := CH_21.and (c22.trans c23)
   exact ⟨by omega, by rw [hbs, ← hb2]; exact hbo.symm, ibd2, by omega, b9_23, (rk_23).weak (SK.up (by omega) (fun _ => .inl) fun _ _ => id), b17_23, (rko_23).weak (SK.up (by omega) (fun _ => .inl) fun _ _ => id), kn_23, hd_23, ⟨b5_23, b6_23, sl_23⟩, CH_23⟩
  try simp only [bX] at hc10
  refine Cn (Qk (Qk (Qy (Ql (Qa (Qb (Wu O O ?_)))))))
  refine Om (Cd O O) O ?_
  refine Ww O O (Qf ?_)
  refine Ke (a + 1, b2, B2, e2, R2, es2) ?_
  exact ⟨by omega, by omega, by rw [up_yes (by omega) hmd, hb2, bestJ_end (by omega)]; exact hgo.step (show ¬ ((a : Int) < 2 ∨ (a : Int) = n) from by omega) hr1, ibd2, hR3, hes3, by omega, b9_21, rk_21, kn_21, ⟨b5_21, b6_21, sl_21⟩, CH_21⟩
 refine Cn (Qk (Qk (Qy (Qa (VC.cut (σ := (Ord × Int) × Option Addr × Nat × (Nat → Prop) × List KE) (fun (b, B, e, R1, es1) => [(0, Kh kb), (1, Kg n), (5, Kh p1), (6, Kh p2), (9, Kh p5), (10, Kg b.2)]) (fun (b, B, e, R1, es1) w' => Best PU n b ∧ (-1 ≤ b.2 ∧ b.2 ≤ 4611686018427387905) ∧ (∀ q, R1 q → R q ∨ p5 < q) ∧ (∀ x ∈ es1, x ∈ es ∨ mu x.1 < mu n) ∧ w11.heap.size ≤ w'.heap.size ∧ Bk w' p5 (ordV b.1 B e).cells 53 ∧ RdK (SK base w'.heap.size R1 (UX9 U w.heap.size p5)) w' B b.1.kids ∧ Kn base kb R1 (UX9 U w.heap.size p5) es1 w' ∧ CD base p1 p2 n FA fc w' ∧ Ch R w w') ?_ ?_)))))
 ·
  refine Qe ?_
  have hgt := GoB.top hgo hn hn2 (by omega) han
  refine Qb (Wu O O (Om (Qz ι79 ς79 O O (b5_11.all' O)) O (Oq (Qi call186 O (ref14_blue n (by omega) (by omega) _ _ _ _ sl_11 (fun q hq => by omega))) O ?_)))
  rintro _ w27 ⟨rfl, c27⟩
  have z27 := c27.size
  refine Ka (Cq O (fun hc13 => ?_) (fun hc13 => ?_))
  ·
   try simp only [bX] at hc13
   refine Qe ?_
   have hhd : hardM PU (facs n) n = true := hc13
   have h8 := hardM_le hhd
   have hu2 := up2_le (x := 2 * n - 1) (j := 14)
   simp only [Int.reducePow] at hu2
   have hu3 := up2_pos (x := 2 * n - 1)
   refine Qb (Wu O O (Oq (Qi call187 O (ref13_Size _ _ (by omega) (by omega))) O ?_))
   rintro _ _ ⟨rfl, rfl⟩
   refine Wu O O (Om (Qu O O) O (Om (Qu O O) O (Ww O O (Ww O O (Wz ?_)))))
   refine Qb (Wu O O (Wu O O ?_))
   have b5_27 := b5_11.keep c27
   refine Om (Qz ι79 ς79 O O (b5_27.all' O)) O ?_
   have kn_27 := kn_11.keep c27
   have sl_27 := sl_11.keep c27
   refine Oq (Qi call152 O ((ih2 hhd).1 (UX9 U w.heap.size p5) FA fc R1 es1 _ kn_27 sl_27 (fun q h => Nat.lt_of_lt_of_le (hUL q h) (by omega)))) O ?_
   rintro _ w28 ⟨r, rA, rc, R2, es2, rfl, hr1, hrb, rko, kno, hR2, hes2, c28⟩
   have z28 := c28.size
   refine Wu O O (Om (Qu O O) O (Om (Qu O O) O (Km (Ck ζ53) O ?_)))
   intro p29 w29 b25 c29 e29 z29
   refine Ks (Cl ς53 O O O O b25) O ?_
   intro w30 c30 z30 b25_30
   refine Ww O O (Wz ?_)
   have hR3 : ∀ q, R2 q → R q ∨ p5 < q := fun q h => (hR2 q h).elim (hR1 q) (fun h => .inr (by omega))
   have hes3 : ∀ x ∈ es2, x ∈ es ∨ mu x.1 < mu n := fun x hx => (hes2 x hx).elim (hes1 x) (fun h => .inr (by have := (ih2 hhd).2; omega))
   have ic := inner_cost hn h8 hr1
   have cc_28_30 : Ch No w28 w30 := (Ch.then (E := No) c29 c30)
   have kn_30 := kno.keep cc_28_30
   have hRb2 := (kn_30).bd
   refine Qb (Wu O O ?_)
   refine Om (Cy O O) O ?_
   refine Wu O O ?_
   refine Om (Cy O O) O ?_
   refine Om (Cd O O) O ?_
   refine Wu O O ?_
   refine Om (Cy O O) O ?_
   refine Om (Cd O O) O ?_
   refine Ww O O (Wy (Wu O O (Om (Rn.geqT O O) O (Wu O O ?_))))
   refine Wu O O (Om (Co O O) O (Wu O O ?_))
   refine Cz (b := _) 4 186 190 O (fun hc14 Jhc14 => by
     refine Oy O (Oy O (Oy O (Om (Qr O O) O ?_)))
     exact (Qo O (Qo O (Qo O Jhc14)))) (fun hc14 Jhc14 => by
     try simp only [bX] at hc14
     refine Wu O O (Wu O O (Om (Co O O) O (Om (Qm O O) O ?_)))
     exact (Qo O (Qo O (Qo O Jhc14)))) ?_
   refine Om (Qr O O) O (Ka (Cq O (fun hc15 => ?_) (fun hc15 => ?_)))
   ·
    try simp only [bX] at hc15
    refine Qb (Wu O O (Om (Qz ι53 ς53 O O (b25_30.all' O)) O (Kq 3 1 (Kl υ51 inf53w105 O O) O ?_)))
    intro p31 w31 l194 l194o c31 e31 z31
    refine Om (Ct O (bld53_0_1_2w105 O)) O (Wu O O ?_)
    have b9_27 := b9_11.keep c27
    have b9_28 := b9_27.tK c28
    have cc_28_31 : Ch No w28 w31 := ((Ch.then (E := No) c29 c30).and c31)
    have b9_31 := b9_28.keep cc_28_31
    refine Ks (Cl ς53 O O O O b9_31) O ?_
    intro w32 c32 z32 b9_32
    refine Ww O O (Qf (Rt ((.mk 4 n [r.1], 3 * r.2 + 12 * n + 10 * up2 (2 * n - 1)), some ⟨p31, 0, none⟩, 1, R2, es2) ?_ ⟨O, O, O, O, O, O, trivial⟩))
    have hbest := hgt.hard hhd hr1
    have hb9 : offerM b (.mk 4 n [r.1]) (blueC n (up2 (2 * n - 1)) r.2) = (.mk 4 n [r.1], 3 * r.2 + 12 * n + 10 * up2 (2 * n - 1)) := by rw [blueC_eq hn (by omega) (by omega) (by omega) ic.1 ic.2]; unfold offerM; exact if_pos (show b.2 < 0 ∨ 3 * r.2 + 12 * n + 10 * up2 (2 * n - 1) < b.2 by omega)
    rw [hb9] at hbest
    have rko_31 := rko.keep cc_28_31
    have rko_32 := rko_31.tK c32
    have l194_32 := l194.to c32
    have kn_31 := kn_30.keep c31
    have kn_32 := kn_31.tK c32
    have b5_28 := b5_27.tK c28
    have b5_31 := b5_28.keep cc_28_31
    have b5_32 := b5_31.tK c32
    have b6_27 := b6_11.keep c27
    have b6_28 := b6_27.tK c28
    have b6_31 := b6_28.keep cc_28_31
    have b6_32 := b6_31.tK c32
    have sl_28 := sl_27.tK c28
    have sl_31 := sl_28.keep cc_28_31
    have sl_32 := sl_31.tK c32
    have CH_27 := CH_11.and c27
    have CH_28 : Ch (R) w w28 := CH_27.tH c28
    have CH_31 := CH_28.and cc_28_31
    have CH_32 : Ch (R) w w32 := CH_31.tH c32
    exact ⟨hbest, by exact ⟨by omega, by omega⟩, hR3, hes3, by omega, b9_32, ((KidRow.nil _ _).snoc (o := r.1) O ((rko_32).weak (SK.up (by omega) (fun _ => .inl) fun _ _ => id))).rd ((l194_32).weak (fun q h => ⟨⟨by omega, by omega⟩, fun h3 => by have := hRb2.1 q h3; omega, fun h3 => by have := hUL q h3; omega⟩)) (by simp), kn_32, ⟨b5_32, b6_32, sl_32⟩, CH_32⟩
   try simp only [bX] at hc15
   refine Qn (Rt (b, B, e, R2, es2) ?_ ⟨O, O, O, O, O, O, trivial⟩)
   have hbest := hgt.hard hhd hr1
   have hb9 : offerM b (.mk 4 n [r.1]) (blueC n (up2 (2 * n - 1)) r.2) = b := by rw [blueC_eq hn (by omega) (by omega) (by omega) ic.1 ic.2]; unfold offerM; exact if_neg (show ¬ (b.2 < 0 ∨ 3 * r.2 + 12 * n + 10 * up2 (2 * n - 1) < b.2) by omega)
   rw [hb9] at hbest
   have b9_27 := b9_11.keep c27
   have b9_28 := b9_27.tK c28
   have b9_30 := b9_28.keep cc_28_30
   have rk_27 := rk_11.keep c27
   have rk_28 := rk_27.tK c28
   have rk_30 := rk_28.keep cc_28_30
   have b5_28 := b5_27.tK c28
   have b5_30 := b5_28.keep cc_28_30
   have b6_27 := b6_11.keep c27
   have b6_28 := b6_27.tK c28
   have b6_30 := b6_28.keep cc_28_30
   have sl_28 := sl_27.tK c28
   have sl_30 := sl_28.keep cc_28_30
   have CH_27 := CH_11.and c27
   have CH_28 : Ch (R) w w28 := CH_27.tH c28
   have CH_30 := CH_28.and cc_28_30
   exact ⟨hbest, hbd, hR3, hes3, by omega, b9_30, (rk_30).weak (SK.up (by omega) (fun q h => (hR2 q h).imp id (fun h => by omega)) fun _ _ => id), kn_30, ⟨b5_30, b6_30, sl_30⟩, CH_30⟩
  try simp only [bX] at hc13
  refine Qn (Rt (b, B, e, R1, es1) ?_ ⟨O, O, O, O, O, O, trivial⟩)
  have b9_27 := b9_11.keep c27
  have rk_27 := rk_11.keep c27
  have kn_27 := kn_11.keep c27
  have b5_27 := b5_11.keep c27
  have b6_27 := b6_11.keep c27
  have sl_27 := sl_11.keep c27
  have CH_27 := CH_11.and c27
  exact ⟨hgt.plain hc13, hbd, hR1, hes1, by omega, b9_27, (rk_27).weak (SK.up (by omega) (fun _ => .inl) fun _ _ => id), kn_27, ⟨b5_27, b6_27, sl_27⟩, CH_27⟩
 rintro ⟨b, B, e, R1, es1⟩ w33 ⟨hbest, hbd, hR1, hes1, hszc, b9_33, rk_33, kn_33, cd, CH_33⟩
 have b5_33 := cd.b5; have b6_33 := cd.b6; have sl_33 := cd.sl
 have hRb := kn_33.bd
 have hRx : ∀ q, R1 q → q < w.heap.size ∨ p5 < q := fun q h => (hR1 q h).imp (fun h => (bd0.1 q h).2) id
 have hUL : ∀ q, UX9 U w.heap.size p5 q → q < w33.heap.size := fun q h => by rcases h with h | h; (have := hU q h; omega); omega
 refine Qe ?_
 obtain ⟨s1, s2, s3, B1, B2, B3, d1, d2, d3, cs, kf⟩ := kn_33
 have rk34 := rk_33
 obtain ⟨dj1, dj2, dj3⟩ := kf.dj; obtain ⟨lb0, lb1, lb2, lb3⟩ := kf.lb; have ht1 := kf.o1.lt; have ht2 := kf.o2.lt; have ht3 := kf.o3.lt; have hol := kf.o2.len
 have hx1 : s1 ≤ w.heap.size ∨ p5 + 1 < s1 := by by_cases h : s1 = 0; omega; have := hRx (s1 - 1) ((kf.hR _).2 (by omega)); omega
 have hx2 : s2 ≤ w.heap.size ∨ p5 + 1 < s2 := by by_cases h : s2 = 0; omega; have := hRx (s2 - 1) ((kf.hR _).2 (by omega)); omega
 have hx3 : s3 ≤ w.heap.size ∨ p5 + 1 < s3 := by by_cases h : s3 = 0; omega; have := hRx (s3 - 1) ((kf.hR _).2 (by omega)); omega
 refine Qb (Wu O O (Wu O O (Om (Qq O) O (Om (Qh υ191 O ς77 O O O) O (Om (Qg ι77 O (kf.bk.cell O)) O (Wu O O (Kq 1 1 (Kl υ77 inf3w105 O O) O ?_)))))))
 intro p34 w34 l203 l203o c34 e34 z34
 have o1_34 := kf.o1.keep c34
 refine Oq (Cm (S := _) υ77 inf3w105 O (by decide) O O o1_34 l203 (by rfl) (fun h => by simp at h) (by omega) (by simp only [maxLen]; omega)) O ?_
 rintro _ w35 ⟨r35, A35, k35, rfl, o35, c35, q35⟩
 have z35 := c35.size
 have y35 := o35.lt
 refine Om (Qq O) O (Om (Qh υ191 O ς77 O O O) O ?_)
 have bk_34 := kf.bk.keep c34
 have bk_35 := bk_34.to c35
 refine Ks (Rk ς77 O O O O bk_35 O) O ?_
 intro w36 c36 z36 bk_36
 refine Ka (VC.cut (σ := Nat × Option Addr × Nat) (fun (rO, AO, kO) => [(0, Kh kb), (1, Kg n), (5, Kh p1), (6, Kh p2), (9, Kh p5), (10, Kg b.2)]) (fun (rO, AO, kO) w' => w36.heap.size ≤ w'.heap.size ∧ Bk w' kb #[.slice A35 (es1.length + 1) k35, .slice AO (es1.length + 1) kO, .slice B3 es1.length d3] 191 ∧ Ow w' r35 3 1 A35 (es1.length + 1) k35 ((es1.map fun e => Kg e.1) ++ [Kg n]) ∧ Ow w' rO 53 3 AO (es1.length + 1) kO (cs ++ [Kg b.1.kind, Kg b.1.n, .slice B b.1.kids.length e]) ∧ Ow w' s3 3 1 B3 es1.length d3 (es1.map fun e => Kg e.2.2) ∧ Bk w' p5 (ordV b.1 B e).cells 53 ∧ CD base p1 p2 n FA fc w' ∧ (rO = s2 ∨ w33.heap.size < rO) ∧ (rO = 0 ∨ ¬ rO = r35) ∧ rO ≤ w'.heap.size ∧ Ch R1 w33 w' ∧ Ch R w w') ?_ ?_)
 ·
  refine Wj 13 (.mv 0 (.mv 1 (.mv 2 (.mv 4 (.two 3 (.mv 5 (.wk 6 (.wk 7 (.mv 8 (.mv 10 (.mv 11 (.two 9 (.wk 12 .nil) 12 (.wk 9 .nil)))))))) 6 (.wk 3 (.mv 5 (.wk 7 (.mv 8 (.mv 10 (.mv 11 (.two 9 (.wk 12 .nil) 12 (.wk 9 .nil))))))))))))) (fun w1 w' => Ch (fun q => s2 = q + 1 ∨ q = kb) w1 w') mixed (by kernel_rfl) (fun _ _ => Ch.refl _ _) ?_
  intro w37 D37
  have c37 := Ch.of_drew D37; have z37 := c37.size
  have sl_34 := sl_33.keep c34
  have sl_35 := sl_34.tK c35
  have sl_36 := sl_35.tK c36
  have sl_37 := sl_36.keep c37
  have b5_34 := b5_33.keep c34
  have b5_35 := b5_34.tK c35
  have b5_36 := b5_35.tK c36
  have b5_37 := b5_36.keep c37
  have b6_34 := b6_33.keep c34
  have b6_35 := b6_34.tK c35
  have b6_36 := b6_35.tK c36
  have b6_37 := b6_36.keep c37
  have b9_34 := b9_33.keep c34
  have b9_35 := b9_34.tK c35
  have b9_36 := b9_35.tK c36
  have b9_37 := b9_36.keep c37
  have bk_37 := bk_36.keep c37
  have o1_36 := o35.to c36
  have o1_37 := o1_36.keep c37
  have o2_34 := kf.o2.keep c34
  have o2_35 := o2_34.to c35
  have o2_36 := o2_35.to c36
  have o2_37 := o2_36.keep c37
  have o3_34 := kf.o3.keep c34
  have o3_35 := o3_34.to c35
  have o3_36 := o3_35.to c36
  have o3_37 := o3_36.keep c37
  have l203o_35 := l203o.to c35
  have l203o_36 := l203o_35.to c36
  have l203o_37 := l203o_36.keep c37
  refine Rc (fun w' hS => Qc O) O O O O (Rc (fun w' hS => Qq O) O O O O (Rc (fun w' hS => Qh υ191 O ς51 O O O) O O O O (Rc (fun w' hS => Qz ι53 ς53 O O ((b9_37.tK hS).all' O)) O O O O (Wl ?_ ?_))))
  ·
   refine Ru (Qg ι51 O (bk_37.cell O)) O O O O (Ch.refl (fun q => s2 = q + 1 ∨ q = kb) w37) (Rc (fun w' hS => Cs υ51 O) O O O O (Rs (Kl υ51 inf53w105 O O) O O O O ?_))
   rintro _ w38 ⟨p38, rfl, N38⟩
   have c38 := N38.ch
   have e38 := N38.p; have z38 := N38.size
   have l213 := SlR.of_new (sz := 3) (l := 1) N38 rfl
   have l213o := Ow.of_new (sz := 3) (l := 1) N38 rfl (by decide)
   have RD_38 := (Ch.refl (fun q => s2 = q + 1 ∨ q = kb) w37).and c38
   refine ⟨RD_38, ?_⟩
   have o2_38 := o2_37.keep c38
   refine Rs (Cm (S := _) υ51 inf53w105 O (by decide) O O o2_38 l213 (by rfl) (fun h => by simp at h) (by omega) (by simp only [maxLen]; omega)) O O O O ?_
   rintro _ w39 ⟨r39, A39, k39, rfl, o39, c39, q39⟩
   have z39 := c39.size
   have y39 := o39.lt
   have RD_39 : Ch (fun q => s2 = q + 1 ∨ q = kb) w37 w39 := RD_38.then c39
   refine ⟨RD_39, ?_⟩
   refine Rc (fun w' hS => Qs υ51 ς53 O O ((o39).sl.ne (by omega))) O O O O (Rc (fun w' hS => Qq O) O O O O (Rc (fun w' hS => Qh υ191 O ς51 O O O) O O O O (Wl ?_ ?_)))
   ·
    refine Wm (Wk.putLast ς53 O O (by rfl) o39 hol) O O O ?_
    rintro _ w40 ⟨o40, c40⟩
    have z40 := c40.size
    have y40 := o40.lt
    have RD_40 : Ch (fun q => s2 = q + 1 ∨ q = kb) w37 w40 := RD_39.then c40
    refine ⟨RD_40, ?_⟩
    have bk_38 := bk_37.keep c38
    have bk_39 := bk_38.to c39
    have bk_40 := bk_39.to c40
    refine Wm (Rk ς51 O O O O bk_40 O) O O O ?_
    intro _ w41 Z41
    obtain ⟨c41, z41⟩ := Z41.cz
    have bk_41 := Bk.put Z41
    have RD_41 : Ch (fun q => s2 = q + 1 ∨ q = kb) w37 w41 := RD_40.then c41
    refine ⟨RD_41, ?_⟩
    refine Rr (Qf (Ca (Rt (r39, A39, k39) ?_ ⟨O, O, O, O, O, O, trivial⟩)))
    have o1_38 := o1_37.keep c38
    have o1_39 := o1_38.to c39
    have o1_40 := o1_39.to c40
    have o1_41 := o1_40.to c41
    have o2_41 := o40.to c41
    have o3_38 := o3_37.keep c38
    have o3_39 := o3_38.to c39
    have o3_40 := o3_39.to c40
    have o3_41 := o3_40.to c41
    have b9_38 := b9_37.keep c38
    have b9_39 := b9_38.tK c39
    have b9_40 := b9_39.tK c40
    have b9_41 := b9_40.tK c41
    have b5_38 := b5_37.keep c38
    have b5_39 := b5_38.tK c39
    have b5_40 := b5_39.tK c40
    have b5_41 := b5_40.tK c41
    have b6_38 := b6_37.keep c38
    have b6_39 := b6_38.tK c39
    have b6_40 := b6_39.tK c40
    have b6_41 := b6_40.tK c41
    have sl_38 := sl_37.keep c38
    have sl_39 := sl_38.tK c39
    have sl_40 := sl_39.tK c40
    have sl_41 := sl_40.tK c41
    have G34_34 := (Ch.refl (R1) w33).and c34
    have G34_35 : Ch (R1) w33 w35 := G34_34.tH c35
    have G34_36 : Ch (R1) w33 w36 := G34_35.tH c36
    have G34_38 := G34_36.and (c37.trans c38)
    have G34_39 : Ch (R1) w33 w39 := G34_38.tH c39
    have G34_40 : Ch (R1) w33 w40 := G34_39.tH c40
    have G34_41 : Ch (R1) w33 w41 := G34_40.tH c41
    have CH_34 := CH_33.and c34
    have CH_35 : Ch (R) w w35 := CH_34.tH c35
    have CH_36 : Ch (R) w w36 := CH_35.tH c36
    have CH_38 := CH_36.and (c37.trans c38)
    have CH_39 : Ch (R) w w39 := CH_38.tH c39
    have CH_40 : Ch (R) w w40 := CH_39.tH c40
    have CH_41 : Ch (R) w w41 := CH_40.tH c41
    exact ⟨by omega, bk_41, o1_41, o2_41, o3_41, b9_41, ⟨b5_41, b6_41, sl_41⟩, by omega, by omega, by omega, G34_41, CH_41⟩
   have bk_38 := bk_37.keep c38
   have bk_39 := bk_38.to c39
   refine Wm (Rk ς51 O O O O bk_39 O) O O O ?_
   intro _ w42 Z42
   obtain ⟨c42, z42⟩ := Z42.cz
   have bk_42 := Bk.put Z42
   have RD_42 : Ch (fun q => s2 = q + 1 ∨ q = kb) w37 w42 := RD_39.then c42
   refine ⟨RD_42, ?_⟩
   have o2_42 := o39.to c42
   refine Wm (Wk.putLast ς53 O O (by rfl) o2_42 hol) O O O ?_
   rintro _ w43 ⟨o43, c43⟩
   have z43 := c43.size
   have y43 := o43.lt
   have RD_43 : Ch (fun q => s2 = q + 1 ∨ q = kb) w37 w43 := RD_42.then c43
   refine ⟨RD_43, ?_⟩
   refine Rr (Qf (Ca (Rt (r39, A39, k39) ?_ ⟨O, O, O, O, O, O, trivial⟩)))
   have bk_43 := bk_42.to c43
   have o1_38 := o1_37.keep c38
   have o1_39 := o1_38.to c39
   have o1_42 := o1_39.to c42
   have o1_43 := o1_42.to c43
   have o3_38 := o3_37.keep c38
   have o3_39 := o3_38.to c39
   have o3_42 := o3_39.to c42
   have o3_43 := o3_42.to c43
   have b9_38 := b9_37.keep c38
   have b9_39 := b9_38.tK c39
   have b9_42 := b9_39.tK c42
   have b9_43 := b9_42.tK c43
   have b5_38 := b5_37.keep c38
   have b5_39 := b5_38.tK c39
   have b5_42 := b5_39.tK c42
   have b5_43 := b5_42.tK c43
   have b6_38 := b6_37.keep c38
   have b6_39 := b6_38.tK c39
   have b6_42 := b6_39.tK c42
   have b6_43 := b6_42.tK c43
   have sl_38 := sl_37.keep c38
   have sl_39 := sl_38.tK c39
   have sl_42 := sl_39.tK c42
   have sl_43 := sl_42.tK c43
   have G34_34 := (Ch.refl (R1) w33).and c34
   have G34_35 : Ch (R1) w33 w35 := G34_34.tH c35
   have G34_36 : Ch (R1) w33 w36 := G34_35.tH c36
   have G34_38 := G34_36.and (c37.trans c38)
   have G34_39 : Ch (R1) w33 w39 := G34_38.tH c39
   have G34_42 : Ch (R1) w33 w42 := G34_39.tH c42
   have G34_43 : Ch (R1) w33 w43 := G34_42.tH c43
   have CH_34 := CH_33.and c34
   have CH_35 : Ch (R) w w35 := CH_34.tH c35
   have CH_36 : Ch (R) w w36 := CH_35.tH c36
   have CH_38 := CH_36.and (c37.trans c38)
   have CH_39 : Ch (R) w w39 := CH_38.tH c39
   have CH_42 : Ch (R) w w42 := CH_39.tH c42
   have CH_43 : Ch (R) w w43 := CH_42.tH c43
   exact ⟨by omega, bk_43, o1_43, o43, o3_43, b9_43, ⟨b5_43, b6_43, sl_43⟩, by omega, by omega, by omega, G34_43, CH_43⟩
  refine Rs (Kl υ51 inf53w105 O O) O O O O ?_
  rintro _ w44 ⟨p44, rfl, N44⟩
  have c44 := N44.ch
  have e44 := N44.p; have z44 := N44.size
  have l213 := SlR.of_new (sz := 3) (l := 1) N44 rfl
  have l213o := Ow.of_new (sz := 3) (l := 1) N44 rfl (by decide)
  have RD_44 := (Ch.refl (fun q => s2 = q + 1 ∨ q = kb) w37).and c44
  refine ⟨RD_44, ?_⟩
  have bk_44 := bk_37.keep c44
  refine Ru (Qg ι51 O (bk_44.cell O)) O O O O RD_44 (Rc (fun w' hS => Cs υ51 O) O O O O ?_)
  have o2_44 := o2_37.keep c44
  refine Rs (Cm (S := _) υ51 inf53w105 O (by decide) O O o2_44 l213 (by rfl) (fun h => by simp at h) (by omega) (by simp only [maxLen]; omega)) O O O O ?_
  rintro _ w45 ⟨r45, A45, k45, rfl, o45, c45, q45⟩
  have z45 := c45.size
  have y45 := o45.lt
  have RD_45 : Ch (fun q => s2 = q + 1 ∨ q = kb) w37 w45 := RD_44.then c45
  refine ⟨RD_45, ?_⟩
  refine Rc (fun w' hS => Qs υ51 ς53 O O ((o45).sl.ne (by omega))) O O O O (Rc (fun w' hS => Qq O) O O O O (Rc (fun w' hS => Qh υ191 O ς51 O O O) O O O O (Wl ?_ ?_)))
  ·
   refine Wm (Wk.putLast ς53 O O (by rfl) o45 hol) O O O ?_
   rintro _ w46 ⟨o46, c46⟩
   have z46 := c46.size
   have y46 := o46.lt
   have RD_46 : Ch (fun q => s2 = q + 1 ∨ q = kb) w37 w46 := RD_45.then c46
   refine ⟨RD_46, ?_⟩
   have bk_45 := bk_44.to c45
   have bk_46 := bk_45.to c46
   refine Wm (Rk ς51 O O O O bk_46 O) O O O ?_
   intro _ w47 Z47
   obtain ⟨c47, z47⟩ := Z47.cz
   have bk_47 := Bk.put Z47
   have RD_47 : Ch (fun q => s2 = q + 1 ∨ q = kb) w37 w47 := RD_46.then c47
   refine ⟨RD_47, ?_⟩
   refine Rr (Qf (Ca (Rt (r45, A45, k45) ?_ ⟨O, O, O, O, O, O, trivial⟩)))
   have o1_44 := o1_37.keep c44
   have o1_45 := o1_44.to c45
   have o1_46 := o1_45.to c46
   have o1_47 := o1_46.to c47
   have o2_47 := o46.to c47
   have o3_44 := o3_37.keep c44
   have o3_45 := o3_44.to c45
   have o3_46 := o3_45.to c46
   have o3_47 := o3_46.to c47
   have b9_44 := b9_37.keep c44
   have b9_45 := b9_44.tK c45
   have b9_46 := b9_45.tK c46
   have b9_47 := b9_46.tK c47
   have b5_44 := b5_37.keep c44
   have b5_45 := b5_44.tK c45
   have b5_46 := b5_45.tK c46
   have b5_47 := b5_46.tK c47
   have b6_44 := b6_37.keep c44
   have b6_45 := b6_44.tK c45
   have b6_46 := b6_45.tK c46
   have b6_47 := b6_46.tK c47
   have sl_44 := sl_37.keep c44
   have sl_45 := sl_44.tK c45
   have sl_46 := sl_45.tK c46
   have sl_47 := sl_46.tK c47
   have G34_34 := (Ch.refl (R1) w33).and c34
   have G34_35 : Ch (R1) w33 w35 := G34_34.tH c35
   have G34_36 : Ch (R1) w33 w36 := G34_35.tH c36
   have G34_44 := G34_36.and (c37.trans c44)
   have G34_45 : Ch (R1) w33 w45 := G34_44.tH c45
   have G34_46 : Ch (R1) w33 w46 := G34_45.tH c46
   have G34_47 : Ch (R1) w33 w47 := G34_46.tH c47
   have CH_34 := CH_33.and c34
   have CH_35 : Ch (R) w w35 := CH_34.tH c35
   have CH_36 : Ch (R) w w36 := CH_35.tH c36
   have CH_44 := CH_36.and (c37.trans c44)
   have CH_45 : Ch (R) w w45 := CH_44.tH c45
   have CH_46 : Ch (R) w w46 := CH_45.tH c46
   have CH_47 : Ch (R) w w47 := CH_46.tH c47
   exact ⟨by omega, bk_47, o1_47, o2_47, o3_47, b9_47, ⟨b5_47, b6_47, sl_47⟩, by omega, by omega, by omega, G34_47, CH_47⟩
  have bk_45 := bk_44.to c45
  refine Wm (Rk ς51 O O O O bk_45 O) O O O ?_
  intro _ w48 Z48
  obtain ⟨c48, z48⟩ := Z48.cz
  have bk_48 := Bk.put Z48
  have RD_48 : Ch (fun q => s2 = q + 1 ∨ q = kb) w37 w48 := RD_45.then c48
  refine ⟨RD_48, ?_⟩
  have o2_48 := o45.to c48
  refine Wm (Wk.putLast ς53 O O (by rfl) o2_48 hol) O O O ?_
  rintro _ w49 ⟨o49, c49⟩
  have z49 := c49.size
  have y49 := o49.lt
  have RD_49 : Ch (fun q => s2 = q + 1 ∨ q = kb) w37 w49 := RD_48.then c49
  refine ⟨RD_49, ?_⟩
  refine Rr (Qf (Ca (Rt (r45, A45, k45) ?_ ⟨O, O, O, O, O, O, trivial⟩)))
  have bk_49 := bk_48.to c49
  have o1_44 := o1_37.keep c44
  have o1_45 := o1_44.to c45
  have o1_48 := o1_45.to c48
  have o1_49 := o1_48.to c49
  have o3_44 := o3_37.keep c44
  have o3_45 := o3_44.to c45
  have o3_48 := o3_45.to c48
  have o3_49 := o3_48.to c49
  have b9_44 := b9_37.keep c44
  have b9_45 := b9_44.tK c45
  have b9_48 := b9_45.tK c48
  have b9_49 := b9_48.tK c49
  have b5_44 := b5_37.keep c44
  have b5_45 := b5_44.tK c45
  have b5_48 := b5_45.tK c48
  have b5_49 := b5_48.tK c49
  have b6_44 := b6_37.keep c44
  have b6_45 := b6_44.tK c45
  have b6_48 := b6_45.tK c48
  have b6_49 := b6_48.tK c49
  have sl_44 := sl_37.keep c44
  have sl_45 := sl_44.tK c45
  have sl_48 := sl_45.tK c48
  have sl_49 := sl_48.tK c49
  have G34_34 := (Ch.refl (R1) w33).and c34
  have G34_35 : Ch (R1) w33 w35 := G34_34.tH c35
  have G34_36 : Ch (R1) w33 w36 := G34_35.tH c36
  have G34_44 := G34_36.and (c37.trans c44)
  have G34_45 : Ch (R1) w33 w45 := G34_44.tH c45
  have G34_48 : Ch (R1) w33 w48 := G34_45.tH c48
  have G34_49 : Ch (R1) w33 w49 := G34_48.tH c49
  have CH_34 := CH_33.and c34
  have CH_35 : Ch (R) w w35 := CH_34.tH c35
  have CH_36 : Ch (R) w w36 := CH_35.tH c36
  have CH_44 := CH_36.and (c37.trans c44)
  have CH_45 : Ch (R) w w45 := CH_44.tH c45
  have CH_48 : Ch (R) w w48 := CH_45.tH c48
  have CH_49 : Ch (R) w w49 := CH_48.tH c49
  exact ⟨by omega, bk_49, o1_49, o49, o3_49, b9_49, ⟨b5_49, b6_49, sl_49⟩, by omega, by omega, by omega, G34_49, CH_49⟩
 rintro ⟨rO, AO, kO⟩ w50 ⟨hszo, bk_50, o1_50, o2_50, o3_50, b9_50, cd, hrO, hrO1, hrO2, G34_50, CH_50⟩
 have b5_50 := cd.b5; have b6_50 := cd.b6; have sl_50 := cd.sl
 refine Kb (Wu O O (Wu O O (Om (Qq O) O (Om (Qh υ191 O ς77 O O O) O (Om (Qg ι77 O (bk_50.cell O)) O (Wu O O ?_))))))
 refine Kq 1 1 (Kl υ77 inf3w105 O O) O ?_
 intro p51 w51 l224 l224o c51 e51 z51
 have o3_51 := o3_50.keep c51
 refine Oq (Cm (S := _) υ77 inf3w105 O (by decide) O O o3_51 l224 (by rfl) (fun h => by simp at h) (by omega) (by simp only [maxLen]; omega)) O ?_
 rintro _ w52 ⟨r52, A52, k52, rfl, o52, c52, q52⟩
 have z52 := c52.size
 have y52 := o52.lt
 refine Om (Qq O) O (Om (Qh υ191 O ς77 O O O) O ?_)
 have bk_51 := bk_50.keep c51
 have bk_52 := bk_51.to c52
 refine Ks (Rk ς77 O O O O bk_52 O) O ?_
 intro w53 c53 z53 bk_53
 refine Wz ?_
 have o1_51 := o1_50.keep c51
 have o1_52 := o1_51.to c52
 have o1_53 := o1_52.to c53
 have o2_51 := o2_50.keep c51
 have o2_52 := o2_51.to c52
 have o2_53 := o2_52.to c53
 have o3_53 := o52.to c53
 have G34_51 := G34_50.and c51
 have G34_52 : Ch (R1) w33 w52 := G34_51.tH c52
 have G34_53 : Ch (R1) w33 w53 := G34_52.tH c53
 obtain ⟨R9, kn9, hR9, rk9⟩ := Kn.more kf bk_53 o1_53 o2_53 o3_53 G34_53 rk34 hbest hbd ⟨hn, hn2⟩ (fun x hx => (hes1 x hx).elim (hnew0 x) (fun h e => by rw [e] at h; omega)) (by omega) (by omega) (by omega) ⟨by omega, by omega, by omega⟩
 have hRx : ∀ q, R9 q → q < w.heap.size ∨ p5 < q := fun q h => (hR9 q h).elim (hRx q) (fun h => .inr (by omega))
 refine Qb ?_
 have b9_51 := b9_50.keep c51
 have b9_52 := b9_51.tK c52
 have b9_53 := b9_52.tK c53
 refine Om (Qz ι53 ς53 O O (b9_53.all' O)) O (Wu O O ?_)
 have b6_51 := b6_50.keep c51
 have b6_52 := b6_51.tK c52
 have b6_53 := b6_52.tK c53
 refine Ks (Cl ς53 O O O O b6_53) O ?_
 intro w54 c54 z54 b6_54
 refine Ww O O (Ka (Qp (VQ.retct O O ι53 ς53 O (b6_54.all' O) O (Kx ?_))))
 have rk_54 := rk9.tK c54
 have kn_54 := kn9.tK c54
 have CH_51 := CH_50.and c51
 have CH_52 : Ch (R) w w52 := CH_51.tH c52
 have CH_53 : Ch (R) w w53 := CH_52.tH c53
 have CH_54 : Ch (R) w w54 := CH_53.tH c54
 exact ⟨b, B, e, R9, _, O, hbest, hbd, (rk_54).weak (SK.up (by omega) (fun _ => .inl) (fun q _ h => .inl h)), (kn_54).less (fun q _ h => .inl h), fun q h => (hR9 q h).elim (fun h => (hR1 q h).imp id (fun h => by omega)) (fun h => .inr (by omega)), fun x hx => by rcases List.mem_append.1 hx with hx | hx; (exact (hes1 x hx).imp id Nat.le_of_lt); (simp at hx; subst hx; exact .inr (Nat.le_refl _)), CH_54⟩
theorem cheapD_all (kb base : Nat) : ∀ (m : Nat) (n : Int), 1 ≤ n → n ≤ 16384 → mu n < m → CheapD kb base n := by
 intro m
 induction m with
 | zero => intro n _ _ h; omega
 | succ m ih =>
  intro n hn hn2 hmu U FA fc R es w kn sl hU
  refine cheapD_walk kb base n hn hn2 U FA fc R es w kn sl hU ?_ ?_
  ·
   intro a ha han hd
   have h1 := divE_ok hn (show 1 ≤ a by omega) hd
   have h2 : n / a * a = n := Int.ediv_mul_cancel (Int.dvd_of_emod_eq_zero hd)
   have h3 : n / a < n := by
    have := Int.mul_le_mul_of_nonneg_left ha (show 0 ≤ n / a by omega)
    omega
   have h4 : mu (n / a) < mu n := by
    unfold mu
    by_cases hp2 : ∃ j : Nat, n = 2 ^ j
    ·
     rw [if_pos hp2, if_pos (pow2_quo hn (by omega) hd hp2)]
     omega
    ·
     rw [if_neg hp2]
     split <;> omega
   exact ⟨ih _ h1.1 (by omega) (by omega), h4⟩
  ·
   intro hh
   have h8 := hardM_le hh
   have hu := up2_spec (x := 2 * n - 1)
   have hu2 := up2_le (x := 2 * n - 1) (j := 14)
   simp only [Int.reducePow] at hu2
   have hu3 := up2_pos (x := 2 * n - 1)
   have h4 : mu (up2 (2 * n - 1)) < mu n := by
    unfold mu
    rw [if_pos hu.1]
    by_cases hp2 : ∃ j : Nat, n = 2 ^ j
    ·
     rw [hard_pow2 (by decide) hn2 hp2] at hh
     cases hh
    ·
     rw [if_neg hp2]
     omega
   exact ⟨ih _ hu3 (by omega) (by omega), h4⟩
theorem cheapD_ok (kb base : Nat) (n : Int) (hn : 1 ≤ n) (hn2 : n ≤ 16384) : CheapD kb base n := cheapD_all kb base _ n hn hn2 (Nat.lt_succ_self _)
theorem ref14_Choose (n : Int) (hn : 1 ≤ n) (hn2 : n ≤ 4096) (FA : Option Addr) (fc : Nat) (SP : Nat → Prop) (w : World) (sl : SlR SP w FA 4 1 (PU.flies.map (.int .i64 ·))) (hP : ∀ q, SP q → q < w.heap.size) :
  Calls prog 123 #[Kg n, .agg #[Kg 16, .slice FA 4 fc, Kg 13]] w (Ret (fun v w' => ∃ r A c, v = .tuple #[ordV r.1 A c, Kg 0] ∧ Best PU n r ∧ RdK (In w.heap.size w'.heap.size) w' A r.1.kids ∧ Ch No w w')) := by
 refine Ku func123 O ntmps123 O (Kb (Km (Cp O) O ?_))
 intro p1 w1 b3 c1 e1 z1
 refine Km (Ck ζ53) O ?_
 intro p2 w2 b4 c2 e2 z2
 refine Ww O O (Wz (Kb (Wu O O (Om (Co O O) O ?_))))
 refine Wu O O ?_
 refine Cz (b := _) 3 11 14 O (fun hc1 Jhc1 => by
   refine Oy O (Oy O (Om (Qr O O) O ?_))
   exact (Qo O (Qo O Jhc1))) (fun hc1 Jhc1 => by
   try simp only [bX] at hc1
   refine Wu O O (Om (Rb O O) O (Om (Qm O O) O ?_))
   exact (Qo O (Qo O Jhc1))) ?_
 refine Ka (Cq O (fun hc2 => ?_) (fun hc2 => ?_))
 ·
  try simp only [bX] at hc2
  omega
 try simp only [bX] at hc2
 refine Qn (Qa (Kb ?_))
 have b3_2 := b3.keep c2
 refine Om (Qz ι79 ς79 O O (b3_2.all' O)) O ?_
 have sl_2 := sl.keep (c1.trans c2)
 refine Oq (Qi call151 O (ref14_Check _ _ _ _ sl_2 (fun q hq => by have := hP q hq; omega))) O ?_
 rintro _ w3 ⟨rfl, c3⟩
 have z3 := c3.size
 refine Ww O O (Wz (Kb (Wu O O (Om (Wd O O) O ?_))))
 refine Ka (Qj O (fun hc3 => ?_) (fun hc3 => ?_))
 · omega
 refine Qn (Qa (Qe ?_))
 obtain ⟨base, hbase⟩ : ∃ x, x = w3.heap.size := ⟨_, rfl⟩
 refine Qb (Om (Ct O (build191w105 O)) O (Km (Cp O) O ?_))
 intro p4 w4 bk c4 e4 z4
 refine Wu O O ?_
 have b3_4 := b3_2.keep (c3.trans c4)
 refine Om (Qz ι79 ς79 O O (b3_4.all' O)) O ?_
 have kf0 : Kn base p4 (fun q => q = p4) (fun _ => False) [] w4 := ⟨0, 0, 0, none, none, none, 0, 0, 0, [], bk, Ow.nil _ _ _, Ow.nil _ _ _, Ow.nil _ _ _, KidRow.nil _ _, fun e h => (by cases h), (by simp), fun q => ⟨.inl, fun h => by omega⟩, ⟨by omega, .inl rfl, .inl rfl, .inl rfl⟩, ⟨.inl rfl, .inl rfl, .inl rfl⟩⟩
 have sl_4 := sl_2.keep (c3.trans c4)
 refine Oq (Qi call152 O (cheapD_ok p4 base n hn (by omega) (fun _ => False) FA fc _ [] _ kf0 ((sl_4).weak (fun q hq => by have := hP q hq; omega)) (fun _ h => h.elim))) O ?_
 rintro _ w5 ⟨r, rA, rc, R2, es2, rfl, hr1, hrb, rko, kno, hR2, hes2, c5⟩
 have z5 := c5.size
 refine Wu O O (Om (Qu O O) O (Om (Qu O O) O (Km (Ck ζ53) O ?_)))
 intro p6 w6 b7 c6 e6 z6
 refine Ks (Cl ς53 O O O O b7) O ?_
 intro w7 c7 z7 b7_7
 refine Ww O O (Wy (Om (Qz ι53 ς53 O O (b7_7.all' O)) O ?_))
 have b4_4 := b4.keep (c3.trans c4)
 have b4_5 := b4_4.to c5
 have cc_5_7 : Ch No w5 w7 := (Ch.then (E := No) c6 c7)
 have b4_7 := b4_5.keep cc_5_7
 refine Ks (Cl ς53 O O O O b4_7) O ?_
 intro w8 c8 z8 b4_8
 refine Ww O O (Ka (Qp (VQ.retct O O ι53 ς53 O (b4_8.all' O) O (Kx ?_))))
 have CH_4 := (c1.trans (c2.trans (c3.trans c4)))
 have CH_5 : Ch (No) w w5 := CH_4.then c5
 have CH_7 := CH_5.and cc_5_7
 have CH_8 : Ch (No) w w8 := CH_7.then c8
 have zz := CH_8.size
 have rko_7 := rko.keep cc_5_7
 have rko_8 := rko_7.to c8
 exact ⟨r, rA, rc, O, hr1, (rko_8).weak (fun q h => ⟨by have := h.1; omega, by have := h.1; omega⟩), CH_8⟩
end Go.Tm
