/- Lemmas of this claim, joined by program. The usual orders of short lists keep to finite floats. Conditions: each lemma names its own. -/
import Derived.Test.YtpfglkohcfjelaaGreatDoorB18
set_option linter.all false
namespace Go.Tm
theorem chk_pick {a n : Nat} (h : ((List.range 10).all fun k : Nat => chkK ((k : Int) + (a : Int))) = true) (h1 : a ≤ n) (h2 : n < a + 10) : chkK n = true := by
  have := List.all_eq_true.1 h (n - a) (by simp; omega)
  rwa [show (((n - a : Nat) : Int)) + (a : Int) = (n : Int) by omega] at this
theorem chk150 {n : Nat} (h1 : 1 ≤ n) (h2 : n ≤ 150) : chkK n = true := by
  have hd : (n - 1) / 10 = 0 ∨ (n - 1) / 10 = 1 ∨ (n - 1) / 10 = 2 ∨ (n - 1) / 10 = 3 ∨ (n - 1) / 10 = 4 ∨ (n - 1) / 10 = 5 ∨ (n - 1) / 10 = 6 ∨ (n - 1) / 10 = 7 ∨ (n - 1) / 10 = 8 ∨ (n - 1) / 10 = 9 ∨ (n - 1) / 10 = 10 ∨ (n - 1) / 10 = 11 ∨ (n - 1) / 10 = 12 ∨ (n - 1) / 10 = 13 ∨ (n - 1) / 10 = 14 := by omega
  rcases hd with h | h | h | h | h | h | h | h | h | h | h | h | h | h | h
  · exact chk_pick (a := 1) chkK0 (by omega) (by omega)
  · exact chk_pick (a := 11) chkK1 (by omega) (by omega)
  · exact chk_pick (a := 21) chkK2 (by omega) (by omega)
  · exact chk_pick (a := 31) chkK3 (by omega) (by omega)
  · exact chk_pick (a := 41) chkK4 (by omega) (by omega)
  · exact chk_pick (a := 51) chkK5 (by omega) (by omega)
  · exact chk_pick (a := 61) chkK6 (by omega) (by omega)
  · exact chk_pick (a := 71) chkK7 (by omega) (by omega)
  · exact chk_pick (a := 81) chkK8 (by omega) (by omega)
  · exact chk_pick (a := 91) chkK9 (by omega) (by omega)
  · exact chk_pick (a := 101) chkK10 (by omega) (by omega)
  · exact chk_pick (a := 111) chkK11 (by omega) (by omega)
  · exact chk_pick (a := 121) chkK12 (by omega) (by omega)
  · exact chk_pick (a := 131) chkK13 (by omega) (by omega)
  · exact chk_pick (a := 141) chkK14 (by omega) (by omega)
theorem ko_best {n : Nat} (h : chkK n = true) (h1 : 1 ≤ n) {r : Ord × Int} (hr : Best PU n r) (hl : r.1.len = n) : KO Fin' r.1 := by
  unfold chkK at h
  cases hb : bestF PU 30 (n : Int) with
  | none => rw [hb] at h; cases h
  | some r2 =>
    rw [hb] at h
    have := hr.unique ⟨30, hb⟩
    subst this
    exact ko_of 20 _ h (GO.of_len (by omega))
end Go.Tm
