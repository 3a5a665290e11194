/- Lemmas of this claim, joined by program. The usual orders of short lists keep to finite floats: the kernel reckons it. Conditions: each lemma names its own. -/
import Derived.Test.YtpfglkohcfjelaaGreatDoorB09
import Derived.Test.YtpfglkohcfjelaaGreatDoorB17
set_option linter.all false
namespace Go.Tm
def chkK (n : Int) : Bool := match bestF PU 30 n with
  | some r => koB 20 r.1
  | none => false
set_option maxRecDepth 100000 in
theorem chkK0 : ((List.range 10).all fun k : Nat => chkK ((k : Int) + 1)) = true := by kernel_rfl
set_option maxRecDepth 100000 in
theorem chkK1 : ((List.range 10).all fun k : Nat => chkK ((k : Int) + 11)) = true := by kernel_rfl
set_option maxRecDepth 100000 in
theorem chkK2 : ((List.range 10).all fun k : Nat => chkK ((k : Int) + 21)) = true := by kernel_rfl
set_option maxRecDepth 100000 in
theorem chkK3 : ((List.range 10).all fun k : Nat => chkK ((k : Int) + 31)) = true := by kernel_rfl
set_option maxRecDepth 100000 in
theorem chkK4 : ((List.range 10).all fun k : Nat => chkK ((k : Int) + 41)) = true := by kernel_rfl
set_option maxRecDepth 100000 in
theorem chkK5 : ((List.range 10).all fun k : Nat => chkK ((k : Int) + 51)) = true := by kernel_rfl
set_option maxRecDepth 100000 in
theorem chkK6 : ((List.range 10).all fun k : Nat => chkK ((k : Int) + 61)) = true := by kernel_rfl
set_option maxRecDepth 100000 in
theorem chkK7 : ((List.range 10).all fun k : Nat => chkK ((k : Int) + 71)) = true := by kernel_rfl
set_option maxRecDepth 100000 in
theorem chkK8 : ((List.range 10).all fun k : Nat => chkK ((k : Int) + 81)) = true := by kernel_rfl
set_option maxRecDepth 100000 in
theorem chkK9 : ((List.range 10).all fun k : Nat => chkK ((k : Int) + 91)) = true := by kernel_rfl
set_option maxRecDepth 100000 in
theorem chkK10 : ((List.range 10).all fun k : Nat => chkK ((k : Int) + 101)) = true := by kernel_rfl
set_option maxRecDepth 100000 in
theorem chkK11 : ((List.range 10).all fun k : Nat => chkK ((k : Int) + 111)) = true := by kernel_rfl
set_option maxRecDepth 100000 in
theorem chkK12 : ((List.range 10).all fun k : Nat => chkK ((k : Int) + 121)) = true := by kernel_rfl
set_option maxRecDepth 100000 in
theorem chkK13 : ((List.range 10).all fun k : Nat => chkK ((k : Int) + 131)) = true := by kernel_rfl
set_option maxRecDepth 100000 in
theorem chkK14 : ((List.range 10).all fun k : Nat => chkK ((k : Int) + 141)) = true := by kernel_rfl
end Go.Tm
