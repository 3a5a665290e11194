/- Lemmas of this claim, joined by program. The usual orders of short lists keep to finite floats: the kernel reckons it. Conditions: each lemma names its own. -/
import Derived.Test.YtpfglkohcfjelaaGreatDoorC09
import Derived.Test.YtpfglkohcfjelaaGreatDoorC17
set_option linter.all false
namespace Go.Tm
set_option maxRecDepth 100000
def chkK (n : Int) : Bool := match bestF PU 30 n with
  | some r => koB 20 r.1
  | none => false
theorem chkK0 : ((List.range 10).all fun k : Nat => chkK ((k : Int) + 1)) = true := by kernel_rfl
theorem chkK1 : ((List.range 10).all fun k : Nat => chkK ((k : Int) + 11)) = true := by kernel_rfl
theorem chkK2 : ((List.range 10).all fun k : Nat => chkK ((k : Int) + 21)) = true := by kernel_rfl
end Go.Tm
