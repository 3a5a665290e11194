/- Lemmas of this claim, joined by program. Every length up to 4096 has a plan: the table. Conditions: each lemma names its own. -/
import Derived.Test.YtpfglkohcfjelaaGreatDoorC13
set_option linter.all false
namespace Go.Tm
inductive Trie where
  | e
  | n (v : Option V) (l r : Trie)
def Trie.get : Trie → Nat → Option V
  | .e, _ => none
  | .n v l r, i => if Nat.ble i 1 = true then v else if Nat.beq (i % 2) 0 = true then l.get (i / 2) else r.get (i / 2)
def Trie.val : Trie → Option V
  | .e => none
  | .n v _ _ => v
def Trie.left : Trie → Trie
  | .e => .e
  | .n _ l _ => l
def Trie.right : Trie → Trie
  | .e => .e
  | .n _ _ r => r
def Trie.set : Nat → Trie → Nat → V → Trie
  | 0, t, _, _ => t
  | f + 1, t, i, x => if Nat.ble i 1 = true then .n (some x) t.left t.right else if Nat.beq (i % 2) 0 = true then .n t.val (Trie.set f t.left (i / 2) x) t.right else .n t.val t.left (Trie.set f t.right (i / 2) x)
theorem Trie.get_eq (t : Trie) (i : Nat) : t.get i = if i ≤ 1 then t.val else if i % 2 = 0 then t.left.get (i / 2) else t.right.get (i / 2) := by
  cases t with
  | e => simp [Trie.get, Trie.val, Trie.left, Trie.right]
  | n v l r => simp [Trie.get, Trie.val, Trie.left, Trie.right]
theorem Trie.get_set : ∀ (f : Nat) (t : Trie) (i j : Nat) (x u : V), 1 ≤ i → 1 ≤ j → (Trie.set f t i x).get j = some u → (j = i ∧ u = x) ∨ t.get j = some u
  | 0, t, i, j, x, u, _, _, h => .inr h
  | f + 1, t, i, j, x, u, hi, hj, h => by
    rw [Trie.set] at h
    simp only [Nat.ble_eq, Nat.beq_eq] at h
    rw [Trie.get_eq t j]
    split at h
    · rename_i h1
      rw [Trie.get_eq] at h
      simp only [Trie.val, Trie.left, Trie.right] at h
      split at h
      · rename_i h2
        injection h with h
        exact .inl ⟨by omega, h.symm⟩
      · rename_i h2
        rw [if_neg h2]; exact .inr h
    · rename_i h1
      split at h
      · rename_i h2
        rw [Trie.get_eq] at h
        simp only [Trie.val, Trie.left, Trie.right] at h
        split at h
        · rename_i h3; rw [if_pos h3]; exact .inr h
        · rename_i h3
          rw [if_neg h3]
          split at h
          · rename_i h4
            rw [if_pos h4]
            rcases Trie.get_set f t.left (i / 2) (j / 2) x u (by omega) (by omega) h with ⟨h5, h6⟩ | h5
            · exact .inl ⟨by omega, h6⟩
            · exact .inr h5
          · rename_i h4; rw [if_neg h4]; exact .inr h
      · rename_i h2
        rw [Trie.get_eq] at h
        simp only [Trie.val, Trie.left, Trie.right] at h
        split at h
        · rename_i h3; rw [if_pos h3]; exact .inr h
        · rename_i h3
          rw [if_neg h3]
          split at h
          · rename_i h4; rw [if_pos h4]; exact .inr h
          · rename_i h4
            rw [if_neg h4]
            rcases Trie.get_set f t.right (i / 2) (j / 2) x u (by omega) (by omega) h with ⟨h5, h6⟩ | h5
            · exact .inl ⟨by omega, h6⟩
            · exact .inr h5
def addA (T : Trie) (n : Nat) : Option V → Nat → Option V
  | none, _ => none
  | some v, a => if (Nat.beq (n % a) 0 && Nat.blt a n) = true then
      (match T.get (n / a) with
      | none => none
      | some w => some (if Nat.ble a 5 = true then (v.max (tD a (n / a) w)).max (tF a (n / a) w) else v.max (tD a (n / a) w)))
    else some v
def heads16 : List Nat := [2, 3, 4, 5, 6, 7, 8, 9, 10, 11, 12, 13, 14, 15, 16]
def v0 (n : Nat) : V := if Nat.ble n 16 = true then (if Nat.ble n 5 = true then (vD n).max (vF n) else vD n) else ⟨0, 0, 0, 1, 1⟩
def addH (T : Trie) (n : Nat) (h : Bool) : Option V → Option V
  | none => none
  | some v => if h = true then
      (match T.get (up2 (2 * n - 1)).toNat with
      | none => none
      | some w => some (v.max (vB (up2 (2 * n - 1)).toNat w)))
    else some v
def fitV (n : Nat) (v : V) : Bool := Nat.ble v.s 65536 && Nat.ble v.a 67108864 && Nat.ble (2 * n + v.c) 262144 && Nat.ble v.k 4096 && Nat.ble v.d 16 && Nat.ble 1 v.d
def someN (n : Nat) (h : Bool) : Bool := Nat.ble n 16 || (h || heads16.any fun a => Nat.beq (n % a) 0)
def stepT (T : Trie) (n : Nat) (h : Bool) : Option Trie :=
  match addH T n h (heads16.foldl (addA T n) (some (v0 n))) with
  | none => none
  | some v => if (fitV n v && someN n h) = true then (fun T' : Trie => if (T'.get n).isSome = true then some T' else none) (T.set 14 n v) else none
def nextT (H : Nat → Bool) (T : Trie) (n : Nat) : Option Trie := if (T.get n).isSome = true then some T else stepT T n (H n)
def runT (H : Nat → Bool) : Nat → Nat → Trie → Option Trie
  | 0, _, T => some T
  | f + 1, n, T => match nextT H T n with
    | none => none
    | some T' => runT H f (n + 1) T'
def hardN (n : Nat) : Bool := hardM PU (facs n) n
def baseL : List (Nat × V) := [(0, ⟨1, 1, 0, 1, 1⟩), (1, ⟨2, 3, 0, 1, 1⟩), (2, ⟨2, 5, 0, 1, 1⟩), (3, ⟨7, 22, 0, 3, 2⟩), (4, ⟨13, 40, 0, 3, 2⟩), (5, ⟨29, 128, 0, 5, 3⟩), (6, ⟨57, 240, 0, 5, 3⟩), (7, ⟨117, 672, 0, 7, 4⟩), (8, ⟨233, 1280, 0, 7, 4⟩), (9, ⟨469, 3328, 0, 9, 5⟩), (10, ⟨937, 6400, 0, 9, 5⟩), (11, ⟨1877, 15872, 0, 11, 6⟩), (12, ⟨3753, 30720, 0, 11, 6⟩), (13, ⟨7509, 73728, 0, 13, 7⟩)]
def base0 : Trie := baseL.foldl (fun T x => Trie.set 14 T (2 ^ x.1) x.2) .e
structure EntV (m : Nat) (v : V) : Prop where
  fit : fitV m v = true
  ok : ∀ r, Best PU m r → 0 ≤ r.2 ∧ GoodV m r.1 v
structure FitP (n : Nat) (v : V) : Prop where
  s : v.s ≤ 65536
  a : v.a ≤ 67108864
  c : 2 * n + v.c ≤ 262144
  k : v.k ≤ 4096
  d : v.d ≤ 16
  d1 : 1 ≤ v.d
theorem fit_of {n : Nat} {v : V} (h : fitV n v = true) : FitP n v := by
  simp only [fitV, Bool.and_eq_true, Nat.ble_eq] at h
  exact ⟨h.1.1.1.1.1, h.1.1.1.1.2, h.1.1.1.2, h.1.1.2, h.1.2, h.2⟩
def Inv (T : Trie) : Prop := ∀ m v, 1 ≤ m → T.get m = some v → EntV m v
theorem upGo_dvd {n a : Int} : ∀ c : Nat, a ∈ upGo n c → 1 ≤ a ∧ n % a = 0
  | 0, h => by simp [upGo] at h
  | c + 1, h => by
    rw [upGo, List.mem_append] at h
    rcases h with h | h
    · exact upGo_dvd c h
    · split at h
      · rename_i h1
        simp at h
        subst h
        exact ⟨by omega, h1⟩
      · simp at h
theorem dnGo_dvd {n a : Int} (hn : 1 ≤ n) (e : Nat) : ∀ c : Nat, c ≤ e → a ∈ dnGo n e c → 1 ≤ a ∧ n % a = 0
  | 0, _, h => by simp [dnGo] at h
  | c + 1, hc, h => by
    rw [dnGo, List.mem_append] at h
    rcases h with h | h
    · exact dnGo_dvd hn e c (by omega) h
    · split at h
      · rename_i h1
        simp at h
        subst h
        have := divE_ok hn (d := (e : Int) - c) (by omega) h1.1
        exact ⟨this.1, this.2.2⟩
      · simp at h
theorem divs_dvd {n a : Int} (hn : 1 ≤ n) {e : Nat} (h : a ∈ divsAt n e) : 1 ≤ a ∧ n % a = 0 := by
  rw [divsAt, List.mem_append] at h
  rcases h with h | h
  · exact upGo_dvd _ h
  · exact dnGo_dvd hn e e (Nat.le_refl e) h
theorem upGo_mem {n : Int} {a : Nat} (h1 : 1 ≤ a) (h : n % (a : Int) = 0) : ∀ c : Nat, a ≤ c → (a : Int) ∈ upGo n c
  | 0, hc => by omega
  | c + 1, hc => by
    rw [upGo, List.mem_append]
    by_cases e : a = c + 1
    · subst e
      exact .inr (by rw [if_pos (by exact_mod_cast h)]; simp)
    · exact .inl (upGo_mem h1 h c (by omega))
theorem dnGo_mem {n : Int} {e d : Nat} (hd : 1 ≤ d) (he : d ≤ e) (h : n % (d : Int) = 0) (h2 : (d : Int) ≤ n / d) : ∀ c : Nat, e - d < c → n / (d : Int) ∈ dnGo n e c
  | 0, hc => by omega
  | c + 1, hc => by
    rw [dnGo, List.mem_append]
    by_cases q : c = e - d
    · have e1 : (e : Int) - (c : Int) = d := by omega
      exact .inr (by rw [e1, if_pos ⟨h, h2⟩]; simp)
    · exact .inl (dnGo_mem hd he h h2 c (by omega))
theorem isq_spec {n : Int} (hn : n ≤ 16384) : 1 ≤ isq n ∧ n ≤ (isq n : Int) * isq n := by
  unfold isq
  cases h : (List.range 200).find? fun e : Nat => decide (n ≤ (e : Int) * e) && decide (1 ≤ e) with
  | none =>
    have := List.find?_eq_none.1 h 128 (by simp)
    simp at this
    omega
  | some e =>
    have := List.find?_some h
    simp only [Bool.and_eq_true, decide_eq_true_eq] at this
    exact ⟨this.2, this.1⟩
theorem divs_mem {n a : Nat} (hn : n ≤ 16384) (ha : 1 ≤ a) (han : a ≤ n) (h : n % a = 0) : (a : Int) ∈ divsAt n (isq n) := by
  obtain ⟨h1, h2⟩ := isq_spec (n := n) (by omega)
  rw [divsAt, List.mem_append]
  have hz : (n : Int) % (a : Int) = 0 := by exact_mod_cast h
  by_cases hl : a ≤ isq n - 1
  · exact .inl (upGo_mem ha hz _ hl)
  · have hge : isq n ≤ a := by omega
    have e : n / a * a = n := Nat.div_mul_cancel (Nat.dvd_of_mod_eq_zero h)
    have h2' : n ≤ isq n * isq n := by exact_mod_cast h2
    have hd1 : 1 ≤ n / a := Nat.div_pos han ha
    have hd2 : n / a ≤ isq n := by
      have h3 : n / a * a ≤ isq n * a := by rw [e]; exact Nat.le_trans h2' (Nat.mul_le_mul_left _ hge)
      exact Nat.le_of_mul_le_mul_right h3 ha
    have e2 : n / (n / a) = a := by
      have : n / a * a / (n / a) = a := Nat.mul_div_cancel_left a hd1
      rwa [e] at this
    have hm : n % (n / a) = 0 := by
      have : n / a * a % (n / a) = 0 := Nat.mul_mod_right _ _
      rwa [e] at this
    have := dnGo_mem (n := n) (e := isq n) (d := n / a) hd1 hd2 (by exact_mod_cast hm) (by
      have : ((n / a : Nat) : Int) ≤ ((n / (n / a) : Nat) : Int) := by rw [e2]; omega
      simpa using this) (isq n) (by omega)
    have q : (n : Int) / ((n / a : Nat) : Int) = (a : Int) := by
      have : ((n / (n / a) : Nat) : Int) = (a : Int) := by rw [e2]
      simpa using this
    rw [q] at this
    exact .inr this
theorem offerM_pos {b : Ord × Int} {o : Ord} {c : Int} (hc : 0 ≤ c) : 0 ≤ (offerM b o c).2 := by
  unfold offerM
  split
  · exact hc
  · omega
def Qv (n : Int) (v : V) (b : Ord × Int) : Prop := 0 ≤ b.2 → GoodV n b.1 v
theorem offerM_q {n : Int} {v : V} {b : Ord × Int} {o : Ord} {c : Int} (hb : Qv n v b) (ho : GoodV n o v) : Qv n v (offerM b o c) := by
  unfold offerM
  split
  · exact fun _ => ho
  · exact hb
theorem heads_mem {a : Int} {h : Ord} (hh : h ∈ headsM PU a) : (h = .mk 1 a [] ∧ a ≤ 16) ∨ (h = .mk 2 a [] ∧ 2 ≤ a ∧ a ≤ 5) := by
  unfold headsM at hh
  rw [List.mem_append] at hh
  rcases hh with hh | hh
  · split at hh
    · rename_i h1; simp at hh; exact .inl ⟨hh, h1⟩
    · simp at hh
  · split at hh
    · rename_i h1
      simp at hh
      simp [PU] at h1
      exact .inr ⟨hh, by omega, by omega⟩
    · simp at hh
theorem foldl_inv {α β : Type} {f : β → α → β} {Q : β → Prop} {l : List α} (h : ∀ b, ∀ x ∈ l, Q b → Q (f b x)) : ∀ b, Q b → Q (l.foldl f b) := by
  induction l with
  | nil => exact fun b hb => hb
  | cons x t ih => exact fun b hb => ih (fun b y hy => h b y (List.mem_cons_of_mem _ hy)) _ (h b x (List.mem_cons_self ..) hb)
theorem best0_q {n : Nat} {v : V} (h1 : n ≤ 16 → (vD n).Le v) (h2 : 2 ≤ n ∧ n ≤ 5 → (vF n).Le v) (hn : 1 ≤ n) : Qv n v (best0 PU n) := by
  unfold best0
  refine foldl_inv (Q := Qv n v) (fun b x hx hb => ?_) _ (fun h => absurd h (by decide))
  rcases heads_mem hx with ⟨rfl, h⟩ | ⟨rfl, h, h'⟩
  · exact offerM_q hb ((good_D hn (by omega)).le (h1 (by omega)))
  · exact offerM_q hb ((good_F (by omega) (by omega)).le (h2 (by omega)))
theorem best0_pos {n : Nat} (h : n ≤ 16) : 0 ≤ (best0 PU n).2 := by
  unfold best0
  have hl : ∀ o ∈ headsM PU n, 0 ≤ lcost o.kind o.n := fun o ho => by
    rcases heads_mem ho with ⟨rfl, h1⟩ | ⟨rfl, h1, h2⟩ <;> exact (lcost_bd (by simp only [Ord.n]; omega) (by simp only [Ord.n]; omega)).1
  have key : ∀ (l : List Ord) (b : Ord × Int), (∀ o ∈ l, 0 ≤ lcost o.kind o.n) → (l ≠ [] ∨ 0 ≤ b.2) → 0 ≤ (l.foldl (fun b o => offerM b o (lcost o.kind o.n)) b).2 := by
    intro l
    induction l with
    | nil => intro b _ h; rcases h with h | h; exact absurd rfl h; exact h
    | cons x t ih => intro b hx _; exact ih _ (fun o ho => hx o (List.mem_cons_of_mem _ ho)) (.inr (offerM_pos (hx x (List.mem_cons_self ..))))
  refine key _ _ hl (.inl ?_)
  have : (PU.direct : Int) = 16 := rfl
  unfold headsM
  rw [this, if_pos (by omega)]
  simp
theorem goM_q {rec : Int → Option (Ord × Int)} {n : Nat} {v : V} (hn : 1 ≤ n) (hn2 : n ≤ 16384) (hrec : ∀ (a : Nat), 2 ≤ a → a ≤ 16 → a < n → n % a = 0 → ∀ r', rec ((n : Int) / a) = some r' → 0 ≤ r'.2 ∧ (GoodV n (.mk 3 0 [.mk 1 a [], r'.1]) v) ∧ (a ≤ 5 → GoodV n (.mk 3 0 [.mk 2 a [], r'.1]) v)) :
    ∀ (l : List Int) (b r : Ord × Int), (∀ a ∈ l, 1 ≤ a ∧ (n : Int) % a = 0) → goM rec PU n l b = some r → Qv n v b → Qv n v r ∧ (0 ≤ b.2 → 0 ≤ r.2) ∧ ((∃ a ∈ l, 2 ≤ a ∧ a ≤ 16 ∧ a < n) → 0 ≤ r.2)
  | [], b, r, _, h, hb => by
    simp only [goM] at h
    injection h with h
    subst h
    exact ⟨hb, id, fun ⟨a, h, _⟩ => absurd h (by simp)⟩
  | a :: t, b, r, hl, h, hb => by
    simp only [goM] at h
    obtain ⟨ha1, ha2⟩ := hl a (List.mem_cons_self ..)
    have key : ∀ b', stepM rec PU n b a = some b' → Qv n v b' ∧ (0 ≤ b.2 → 0 ≤ b'.2) ∧ ((2 ≤ a ∧ a ≤ 16 ∧ a < n) → 0 ≤ b'.2) := by
      intro b' hs
      unfold stepM at hs
      split at hs
      · rename_i h1
        injection hs with hs
        subst hs
        exact ⟨hb, id, fun h => by omega⟩
      · rename_i h1
        have hale : a ≤ n := Int.le_of_dvd (by omega) (Int.dvd_of_emod_eq_zero ha2)
        split at hs
        · rename_i h2
          injection hs with hs
          subst hs
          refine ⟨hb, id, fun h => ?_⟩
          exfalso
          have : (PU.direct : Int) = 16 := rfl
          unfold headsM at h2
          rw [this, if_pos (by omega)] at h2
          simp at h2
        · rename_i h2
          split at hs
          · cases hs
          · rename_i r' hr'
            injection hs with hs
            subst hs
            obtain ⟨x, hx⟩ : ∃ x, x ∈ headsM PU a := List.exists_mem_of_ne_nil _ h2
            have ha16 : a ≤ 16 := by rcases heads_mem hx with ⟨_, h⟩ | ⟨_, _, h⟩ <;> omega
            obtain ⟨m, rfl⟩ : ∃ m : Nat, a = m := ⟨a.toNat, by omega⟩
            obtain ⟨g1, g2, g3⟩ := hrec m (by omega) (by omega) (by omega) (by exact_mod_cast ha2) r' hr'
            have hq1 : 1 ≤ (n : Int) / (m : Int) ∧ (n : Int) / (m : Int) ≤ n := by
              have := divE_ok (n := n) (d := m) (by omega) (by omega) ha2
              exact ⟨this.1, this.2.1⟩
            have hpos : ∀ (b : Ord × Int) (x : Ord), x ∈ headsM PU m → 0 ≤ (offerH n m r' b x).2 := by
              intro b x hx
              unfold offerH
              rw [if_pos g1]
              refine offerM_pos (timesC_bd (by omega) (by omega) hq1.1 (by omega) ?_ g1).1
              rcases heads_mem hx with ⟨rfl, h⟩ | ⟨rfl, h, h'⟩ <;> exact (lcost_bd (by simp only [Ord.n]; omega) (by simp only [Ord.n]; omega)).1
            have hq : Qv n v ((headsM PU m).foldl (offerH n m r') b) := by
              refine foldl_inv (Q := Qv n v) (fun b x hx hb => ?_) _ hb
              unfold offerH
              rw [if_pos g1]
              rcases heads_mem hx with ⟨rfl, h⟩ | ⟨rfl, h, h'⟩
              · exact offerM_q hb g2
              · exact offerM_q hb (g3 (by omega))
            have hp2 : 0 ≤ ((headsM PU m).foldl (offerH n m r') b).2 := by
              have : ∀ (l : List Ord) (b : Ord × Int), (∀ x ∈ l, x ∈ headsM PU m) → (l ≠ [] ∨ 0 ≤ b.2) → 0 ≤ (l.foldl (offerH n m r') b).2 := by
                intro l
                induction l with
                | nil => intro b _ h; rcases h with h | h; exact absurd rfl h; exact h
                | cons x t ih => intro b hx _; exact ih _ (fun o ho => hx o (List.mem_cons_of_mem _ ho)) (.inr (hpos b x (hx x (List.mem_cons_self ..))))
              exact this _ _ (fun _ h => h) (.inl h2)
            exact ⟨hq, fun _ => hp2, fun _ => hp2⟩
    cases hs : stepM rec PU n b a with
    | none => rw [hs] at h; cases h
    | some b' =>
      rw [hs] at h
      obtain ⟨k1, k2, k3⟩ := key b' hs
      obtain ⟨i1, i2, i3⟩ := goM_q hn hn2 hrec t b' r (fun x hx => hl x (List.mem_cons_of_mem _ hx)) h k1
      refine ⟨i1, fun hb => i2 (k2 hb), ?_⟩
      rintro ⟨x, hx, h1, h2, h3⟩
      rcases List.mem_cons.1 hx with rfl | hx
      · exact i2 (k3 ⟨h1, h2, h3⟩)
      · exact i3 ⟨x, hx, h1, h2, h3⟩
theorem addA_le (T : Trie) (n : Nat) : ∀ (l : List Nat) (x : Option V) (v : V), l.foldl (addA T n) x = some v → ∃ u, x = some u ∧ u.Le v ∧ ∀ a ∈ l, n % a = 0 → a < n → ∃ w, T.get (n / a) = some w ∧ (tD a (n / a) w).Le v ∧ (a ≤ 5 → (tF a (n / a) w).Le v)
  | [], x, v, h => ⟨v, h, V.Le.refl v, fun a h => absurd h (by simp)⟩
  | a :: t, x, v, h => by
    obtain ⟨u, h1, h2, h3⟩ := addA_le T n t (addA T n x a) v h
    cases x with
    | none => cases h1
    | some u0 =>
      unfold addA at h1
      simp only at h1
      split at h1
      · rename_i hc
        simp only [Bool.and_eq_true, Nat.beq_eq, Nat.blt_eq] at hc
        split at h1
        · cases h1
        · rename_i w hw
          injection h1 with h1
          have hle : u0.Le u ∧ (tD a (n / a) w).Le u ∧ (a ≤ 5 → (tF a (n / a) w).Le u) := by
            subst h1
            split
            · rename_i h5
              exact ⟨(V.le_maxL _ _).trans (V.le_maxL _ _), (V.le_maxR _ _).trans (V.le_maxL _ _), fun _ => V.le_maxR _ _⟩
            · rename_i h5
              simp only [Nat.ble_eq] at h5
              exact ⟨V.le_maxL _ _, V.le_maxR _ _, fun h => absurd h h5⟩
          refine ⟨u0, rfl, hle.1.trans h2, fun b hb hm hlt => ?_⟩
          rcases List.mem_cons.1 hb with rfl | hb
          · exact ⟨w, hw, hle.2.1.trans h2, fun h => (hle.2.2 h).trans h2⟩
          · exact h3 b hb hm hlt
      · rename_i hc
        injection h1 with h1
        subst h1
        refine ⟨u0, rfl, h2, fun b hb hm hlt => ?_⟩
        rcases List.mem_cons.1 hb with rfl | hb
        · exfalso; apply hc; simp [hm, hlt]
        · exact h3 b hb hm hlt
theorem mem_heads16 {a : Nat} (h1 : 2 ≤ a) (h2 : a ≤ 16) : a ∈ heads16 := by
  have : ∀ a : Fin 17, 2 ≤ a.1 → a.1 ∈ heads16 := by decide
  exact this ⟨a, by omega⟩ h1
theorem ent_step {T : Trie} (hT : Inv T) {n : Nat} (hn : 1 ≤ n) (hn2 : n ≤ 4096) {v : V} (hv : addH T n (hardM PU (facs n) n) (heads16.foldl (addA T n) (some (v0 n))) = some v) (hs : someN n (hardM PU (facs n) n) = true) : ∀ r, Best PU n r → 0 ≤ r.2 ∧ GoodV n r.1 v := by
  rintro r ⟨f, hr⟩
  cases f with
  | zero => cases hr
  | succ f =>
    obtain ⟨v1, hv1⟩ : ∃ v1, heads16.foldl (addA T n) (some (v0 n)) = some v1 := by
      cases h : heads16.foldl (addA T n) (some (v0 n)) with
      | none => rw [h] at hv; cases hv
      | some v1 => exact ⟨v1, rfl⟩
    rw [hv1] at hv
    have hle : v1.Le v := by
      unfold addH at hv
      simp only at hv
      split at hv
      · split at hv
        · cases hv
        · injection hv with hv
          subst hv
          exact V.le_maxL _ _
      · injection hv with hv
        subst hv
        exact V.Le.refl _
    obtain ⟨u, hu, hle0, hA⟩ := addA_le T n heads16 _ _ hv1
    injection hu with hu
    subst hu
    have hrec : ∀ (a : Nat), 2 ≤ a → a ≤ 16 → a < n → n % a = 0 → ∀ r', bestF PU f ((n : Int) / a) = some r' → 0 ≤ r'.2 ∧ (GoodV n (.mk 3 0 [.mk 1 a [], r'.1]) v) ∧ (a ≤ 5 → GoodV n (.mk 3 0 [.mk 2 a [], r'.1]) v) := by
      intro a h1 h2 h3 h4 r' hr'
      obtain ⟨w, hw, l1, l2⟩ := hA a (mem_heads16 h1 h2) h4 h3
      have e : n / a * a = n := Nat.div_mul_cancel (Nat.dvd_of_mod_eq_zero h4)
      have hq : 1 ≤ n / a := Nat.div_pos (by omega) (by omega)
      have hq2 : 2 ≤ n / a := by
        rcases Nat.lt_or_ge (n / a) 2 with h | h
        · have : n / a = 1 := by omega
          rw [this] at e; omega
        · exact h
      have ent := hT (n / a) w hq hw
      have ft := fit_of ent.fit
      have := ent.ok r' ⟨f, by rw [← hr']; congr 1⟩
      have e2 : a * (n / a) = n := by rw [Nat.mul_comm]; exact e
      have g1 := good_tD this.2 h1 h2 hq2 (by omega) ft.d1 ft.k ft.d
      rw [e2] at g1
      refine ⟨this.1, g1.le (l1.trans hle), fun h5 => ?_⟩
      have g2 := good_tF this.2 h1 h5 hq2 (by omega) ft.d1 ft.k ft.d
      rw [e2] at g2
      exact g2.le ((l2 h5).trans hle)
    have hb0 : Qv n v (best0 PU n) := by
      refine best0_q (fun h => ?_) (fun h => ?_) hn
      · refine V.Le.trans ?_ (hle0.trans hle)
        unfold v0
        rw [if_pos (by simpa using h)]
        split
        · exact V.le_maxL _ _
        · exact V.Le.refl _
      · refine V.Le.trans ?_ (hle0.trans hle)
        unfold v0
        rw [if_pos (by simp; omega), if_pos (by simp; omega)]
        exact V.le_maxR _ _
    rw [bestF] at hr
    cases hg : goM (bestF PU f) PU n (divsAt n (isq n)) (best0 PU n) with
    | none => rw [hg] at hr; cases hr
    | some b =>
      rw [hg] at hr
      simp only at hr
      obtain ⟨q1, q2, q3⟩ := goM_q hn (by omega) hrec (divsAt n (isq n)) (best0 PU n) b (fun a ha => divs_dvd (by omega) ha) hg hb0
      split at hr
      · rename_i hh
        split at hr
        · cases hr
        · rename_i x hx
          injection hr with hr
          subst hr
          have hm1 : 1 ≤ up2 (2 * (n : Int) - 1) := up2_pos (by omega) (by omega)
          have hm2 : 2 * (n : Int) - 1 ≤ up2 (2 * (n : Int) - 1) := (up2_spec (by omega) (by omega)).2.1
          have hm3 : up2 (2 * (n : Int) - 1) ≤ 2 ^ 13 := up2_le (by omega) (by omega) (by simp; omega)
          have hm4 : (2 : Int) ^ 13 = 8192 := by decide
          obtain ⟨w, hw, hwle⟩ : ∃ w, T.get (up2 (2 * (n : Int) - 1)).toNat = some w ∧ (vB (up2 (2 * (n : Int) - 1)).toNat w).Le v := by
            unfold addH at hv
            simp only at hv
            rw [if_pos hh] at hv
            split at hv
            · cases hv
            · rename_i w hw
              injection hv with hv
              subst hv
              exact ⟨w, hw, V.le_maxR _ _⟩
          have em : (((up2 (2 * (n : Int) - 1)).toNat : Nat) : Int) = up2 (2 * (n : Int) - 1) := by omega
          have ent := hT _ w (by omega) hw
          have ft := fit_of ent.fit
          have hx2 := ent.ok x ⟨f, by rw [em]; exact hx⟩
          have hn1 : 2 ≤ n := by
            rcases Nat.lt_or_ge n 2 with h | h
            · have : n = 1 := by omega
              subst this
              exact absurd hh (by decide)
            · exact h
          have gb := good_B (n := n) hx2.2 hn1 (by omega) (by omega) ft.k ft.d
          have hc := (blueC_bd (n := n) (m := up2 (2 * (n : Int) - 1)) (cm := x.2) (by omega) (by omega) hm1 (by omega) (by omega)).1
          have hp := offerM_pos (b := b) (o := .mk 4 n [x.1]) hc
          exact ⟨hp, offerM_q q1 (gb.le hwle) hp⟩
      · rename_i hh
        injection hr with hr
        subst hr
        have hp : 0 ≤ b.2 := by
          unfold someN at hs
          simp only [Bool.or_eq_true, Nat.ble_eq, List.any_eq_true, Nat.beq_eq] at hs
          rcases hs with hs | hs | ⟨a, ha, hm⟩
          · exact q2 (best0_pos hs)
          · exact absurd hs hh
          · have ha2 : 2 ≤ a ∧ a ≤ 16 := (by decide : ∀ a ∈ heads16, 2 ≤ a ∧ a ≤ 16) a ha
            by_cases h16 : n ≤ 16
            · exact q2 (best0_pos h16)
            · exact q3 ⟨a, divs_mem (by omega) (by omega) (by omega) hm, by omega, by omega, by omega⟩
        exact ⟨hp, q1 hp⟩
theorem stepT_inv {T T' : Trie} (hT : Inv T) {n : Nat} (hn : 1 ≤ n) (hn2 : n ≤ 4096) (h : stepT T n (hardM PU (facs n) n) = some T') : Inv T' ∧ ∃ v, EntV n v := by
  unfold stepT at h
  split at h
  · cases h
  · rename_i v hv
    split at h
    · rename_i hc
      simp only [Bool.and_eq_true] at hc
      simp only at h
      split at h
      · injection h with h
        subst h
        have e : EntV n v := ⟨hc.1, ent_step hT hn hn2 hv hc.2⟩
        refine ⟨fun m u hm hu => ?_, v, e⟩
        rcases Trie.get_set 14 T n m v u hn hm hu with ⟨rfl, rfl⟩ | hu
        · exact e
        · exact hT m u hm hu
      · cases h
    · cases h
theorem runT_inv {H : Nat → Bool} (hH : ∀ n : Nat, n ≤ 4096 → H n = hardM PU (facs n) n) (f : Nat) : ∀ (n : Nat) (T T' : Trie), Inv T → 1 ≤ n → n + f ≤ 4097 → runT H f n T = some T' → ∀ m, n ≤ m → m < n + f → ∃ v, EntV m v := by
  induction f with
  | zero => intro n T T' _ _ _ _ m h1 h2; omega
  | succ f ih =>
    intro n T T' hT hn hf h m h1 h2
    rw [runT] at h
    split at h
    · cases h
    · rename_i T1 hs
      have key : Inv T1 ∧ ∃ v, EntV n v := by
        unfold nextT at hs
        split at hs
        · rename_i hg
          injection hs with hs
          subst hs
          obtain ⟨v, hv⟩ := Option.isSome_iff_exists.1 hg
          exact ⟨hT, v, hT n v hn hv⟩
        · rw [hH n (by omega)] at hs
          exact stepT_inv hT hn (by omega) hs
      obtain ⟨i1, v, hv⟩ := key
      by_cases e : m = n
      · subst e; exact ⟨v, hv⟩
      · exact ih (n + 1) T1 T' i1 (by omega) (by omega) h m (by omega) (by omega)
def exO : Nat → Ord
  | 0 => .mk 1 1 []
  | 1 => .mk 2 2 []
  | 2 => .mk 2 4 []
  | k + 3 => if Nat.beq (k % 2) 0 = true then .mk 3 0 [.mk 2 2 [], exO (k + 2)] else .mk 3 0 [.mk 2 4 [], exO (k + 1)]
def exC : List Int := [8, 4, 16, 66, 182, 518, 1254, 3142, 7174, 16902, 37382, 84998, 184326, 409606]
def ex (k : Nat) : Ord × Int := (exO k, exC.getD k 0)
def recK (k : Nat) (m : Int) : Option (Ord × Int) := ((List.range k).find? fun j => decide ((2 : Int) ^ j = m)).map ex
def goK (k : Nat) : Option (Ord × Int) := goM (recK k) PU (2 ^ k) (divsAt (2 ^ k) (isq (2 ^ k))) (best0 PU (2 ^ k))
theorem best_pow (h : ∀ k, k < 14 → goK k = some (ex k)) : ∀ k : Nat, k < 14 → bestF PU (k + 1) (2 ^ k) = some (ex k) := by
  intro k
  induction k using Nat.strongRecOn with
  | _ k ih =>
    intro hk
    have hrec : ∀ n r, recK k n = some r → bestF PU k n = some r := by
      intro n r hr
      unfold recK at hr
      rw [Option.map_eq_some_iff] at hr
      obtain ⟨j, hj, rfl⟩ := hr
      have h1 := List.find?_some hj
      have h2 := List.mem_range.1 (List.mem_of_find?_eq_some hj)
      simp only [decide_eq_true_eq] at h1
      subst h1
      exact bestF_le (by omega) (ih j h2 (by omega))
    have hg := goM_mono hrec (h k hk)
    have hp : (2 : Int) ^ k ≤ 16384 := by
      have h1 : (2 : Int) ^ k ≤ 2 ^ 13 := by exact_mod_cast Nat.pow_le_pow_right (by omega : 0 < 2) (by omega : k ≤ 13)
      have h2 : (2 : Int) ^ 13 = 8192 := by decide
      omega
    have hh := hard_pow2 (P := PU) (n := 2 ^ k) (by decide) hp ⟨k, rfl⟩
    rw [bestF, hg]
    simp only [hh, Bool.false_eq_true, if_false]
def baseOk (x : Nat × V) : Bool := fitV (2 ^ x.1) x.2 && (Nat.blt x.1 14 && (decide (0 ≤ (ex x.1).2) && (match szF 40 (ex x.1).1 with
    | some (m, u) => Nat.beq m (2 ^ x.1) && u.leB x.2
    | none => false)))
theorem baseOk_ent (hE : ∀ k, k < 14 → goK k = some (ex k)) {x : Nat × V} (h : baseOk x = true) : EntV (2 ^ x.1) x.2 := by
  unfold baseOk at h
  simp only [Bool.and_eq_true, decide_eq_true_eq, Nat.blt_eq] at h
  obtain ⟨h1, hk, h3, h4⟩ := h
  refine ⟨h1, fun r hr => ?_⟩
  obtain rfl := hr.unique ⟨x.1 + 1, by rw [← best_pow hE x.1 hk]; congr 1⟩
  split at h4
  · rename_i m u hz
    simp only [Bool.and_eq_true, Nat.beq_eq] at h4
    obtain ⟨rfl, h5⟩ := h4
    exact ⟨h3, (szF_good 40 _ hz).le (V.le_of h5)⟩
  · cases h4
theorem base_inv (hE : ∀ k, k < 14 → goK k = some (ex k)) (hb : ∀ x ∈ baseL, baseOk x = true) : Inv base0 := by
  unfold base0
  have h0 : Inv .e := fun m v _ h => by cases h
  have key : ∀ (l : List (Nat × V)) (T : Trie), (∀ x ∈ l, baseOk x = true) → Inv T → Inv (l.foldl (fun T x => Trie.set 14 T (2 ^ x.1) x.2) T) := by
    intro l
    induction l with
    | nil => exact fun T _ h => h
    | cons x t ih =>
      intro T hx hT
      refine ih _ (fun y hy => hx y (List.mem_cons_of_mem _ hy)) fun m u hm hu => ?_
      rcases Trie.get_set 14 T (2 ^ x.1) m x.2 u (Nat.two_pow_pos _) hm hu with ⟨rfl, rfl⟩ | hu
      · exact baseOk_ent hE (hx x (List.mem_cons_self ..))
      · exact hT m u hm hu
  exact key baseL _ hb h0
theorem EntV.has {n : Nat} {v : V} (hn : 1 ≤ n) (h : EntV n v) : HasP PU n := by
  intro r hr
  obtain ⟨h1, h2⟩ := h.ok r hr
  have ft := fit_of h.fit
  have hl := h2.len ft.k ft.d
  refine ⟨hl, ?_⟩
  unfold buildM
  rw [hl]
  have g := h2.g ⟨0, 1, (n : Int)⟩ (bld0 n)
  have f1 := ft.s; have f2 := ft.a; have f3 := ft.c
  obtain ⟨e1, e2, e3, e4⟩ := g
  have b1 : (bld0 n).steps.length = 0 := rfl
  have b2 : (bld0 n).acts = 0 := rfl
  have b3 : (bld0 n).fr = 2 * n := by show (0 : Int) + 2 * n = _; omega
  have b4 : (bld0 n).cl ≤ 2 * n := by
    simp only [bld0, Bld.region]
    split <;> omega
  rw [b1] at e1
  rw [b2] at e2
  rw [b3] at e3
  simp only [Bld.full, Bool.or_eq_false_iff, decide_eq_false_iff_not]
  refine ⟨⟨by omega, by omega⟩, by omega⟩
end Go.Tm
