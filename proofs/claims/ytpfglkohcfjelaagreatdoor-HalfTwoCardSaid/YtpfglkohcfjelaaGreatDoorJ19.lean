/- Lemmas of this claim, joined by program. Closed facts of the row of HalfTwo, part 1. Conditions: none. Conditions: each lemma names its own. -/
import Derived.Test.YtpfglkohcfjelaaGreatDoorRows
import Derived.Test.YtpfglkohcfjelaaGreatDoorChecked
import Derived.SevenTiedAt
import Derived.KernelRfl
import Derived.Stop.Joined
import Derived.WideKeyArgs
import Derived.JoinedOf
set_option linter.all false
namespace Go.Proofs.YtpfglkohcfjelaaGreatDoor
open Go.ChangeShapes Go.WideShapes
theorem halfTwoG0 : (((((((((Rows.halfTwoRow.wf (OpenSpec.ofChange Rows.halfTwoSpec)) && (laidOutB Tryz.prog)) && (mapsRowed Tryz.prog)) && (Tryz.f10.params.all (Tryz.prog.readableRec ·))) && (namedTie Tryz.prog Rows.halfTwoRow.named Rows.halfTwoSpec.vars)) && ((Rows.halfTwoRow.stops == []))) && ((Tryz.prog.stops == []))) && ((Rows.halfTwoRow.knobs == []))) && ((Tryz.prog.stopKnobs == []))) = true := by kernel_rfl
theorem halfTwoG1 : (((((Rows.halfTwoRow.inPlace == Tryz.prog.inPlace 10)) && ((Rows.halfTwoRow.unfollowed == Tryz.prog.unfollowed 10))) && ((Rows.halfTwoRow.recurses == Tryz.prog.recurses 10))) && ((Rows.halfTwoRow.named == Tryz.prog.varsNamed 10))) = true := by kernel_rfl
theorem halfTwoG2 : (((((((((((Rows.halfTwoRow.maps == (Tryz.f10.params.toList ++ Rows.halfTwoSpec.plain.varTypes Tryz.prog).any (Tryz.prog.mapsRec ·))) && ((Rows.halfTwoRow.ifaces == (Tryz.f10.params.toList ++ Rows.halfTwoSpec.plain.varTypes Tryz.prog).any (Tryz.prog.ifacesRec ·)))) && ((Rows.halfTwoRow.mapsOut == Tryz.prog.mapsAmong Tryz.f10.resultTypes.toList))) && ((Rows.halfTwoRow.loops == (Tryz.f10.params.toList ++ Rows.halfTwoSpec.plain.varTypes Tryz.prog).any (Tryz.prog.loopsFrom ·)))) && ((Rows.halfTwoRow.wideKeys == (Tryz.f10.params.toList ++ Rows.halfTwoSpec.plain.varTypes Tryz.prog ++ Tryz.f10.resultTypes.toList).any (Tryz.prog.wideKeysFrom ·)))) && (Rows.halfTwoSpec.vars.all (Tryz.prog.varReadable ·))) && (Tryz.f10.resultTypes.all (fun t => Tryz.prog.readableRec t && decide (t < Tryz.prog.types.size)))) && ((Rows.halfTwoRow.ifacesOut == Tryz.f10.resultTypes.toList.any (Tryz.prog.ifacesRec ·)))) && ((Rows.halfTwoRow.loopsOut == Tryz.f10.resultTypes.toList.any (Tryz.prog.loopsFrom ·)))) && ((Rows.halfTwoRow.plainKeys == Tryz.prog.plainKeys))) = true := by kernel_rfl
theorem halfTwoG3 : (((((((((Rows.halfTwoRow.shortTexts.isNone) && (Tryz.prog.stopsHeard)) && (Tryz.prog.mayEnter)) && ((Rows.halfTwoRow.lifted == Tryz.prog.liftsFinal))) && ((Tryz.prog.make == some Rows.halfTwoRow.make))) && ((Rows.halfTwoRow.kinds == (if Rows.halfTwoRow.domain.isEmpty then [] else Tryz.f10.params.toList.map fun t => match Tryz.prog.underlying t with | some (.int k) => some k | _ => none)))) && ((Rows.halfTwoRow.pinned == Rows.halfTwoRow.pinnedBy))) && ((Rows.halfTwoRow.veiled == (Tryz.f10.params.toList ++ Rows.halfTwoSpec.plain.varTypes Tryz.prog ++ Tryz.f10.resultTypes.toList).any (Tryz.prog.veiledRec ·)))) && (Rows.halfTwoRow.veiledFits Tryz.prog Tryz.f10.params.toList (Tryz.f10.params.toList ++ Rows.halfTwoSpec.plain.varTypes Tryz.prog ++ Tryz.f10.resultTypes.toList))) = true := by kernel_rfl
theorem halfTwoName : Tryz.prog.funcNamed "timbre/timbrelaw22.HalfTwo" = some 10 := by kernel_rfl
theorem halfTwoLooks : true = Tryz.prog.looks [] := by kernel_rfl
theorem halfTwoStand : ([22,22].all fun u => !Tryz.prog.wantsStandIn u) = true := by kernel_rfl
theorem halfTwoGoes : false = Rows.halfTwoRow.goesBy Tryz.prog := by kernel_rfl
theorem halfTwoWf : OpenClaim.wfByText (OpenSpec.ofChange Rows.halfTwoSpec) Rows.halfTwoRow = true := by kernel_rfl
theorem andL {a b : Bool} (h : (a && b) = true) : a = true := by cases a <;> simp_all
theorem andR {a b : Bool} (h : (a && b) = true) : b = true := by cases a <;> simp_all
theorem andT {a b : Bool} (h : a = true) (g : b = true) : (a && b) = true := by rw [h, g]; rfl
set_option maxRecDepth 100000 in
theorem halfTwoJoined : joinedFacts Tryz.prog 10 Tryz.f10 Rows.halfTwoSpec Rows.halfTwoRow = true := (andT (andT (andT (andT (andT (andT (andT (andT (andT (andT (andT (andT (andT (andT (andT (andT (andT (andT (andT (andT (andT (andT (andT halfTwoG0 (andL (andL (andL halfTwoG1)))) (andR (andL (andL halfTwoG1)))) (andR (andL halfTwoG1))) (andR halfTwoG1)) (andL (andL (andL (andL (andL (andL (andL (andL (andL halfTwoG2)))))))))) (andR (andL (andL (andL (andL (andL (andL (andL (andL halfTwoG2)))))))))) (andR (andL (andL (andL (andL (andL (andL (andL halfTwoG2))))))))) (andR (andL (andL (andL (andL (andL (andL halfTwoG2)))))))) (andR (andL (andL (andL (andL (andL halfTwoG2))))))) (andR (andL (andL (andL (andL halfTwoG2)))))) (andR (andL (andL (andL halfTwoG2))))) (andR (andL (andL halfTwoG2)))) (andR (andL halfTwoG2))) (andR halfTwoG2)) (andL (andL (andL (andL (andL (andL (andL (andL halfTwoG3))))))))) (andR (andL (andL (andL (andL (andL (andL (andL halfTwoG3))))))))) (andR (andL (andL (andL (andL (andL (andL halfTwoG3)))))))) (andR (andL (andL (andL (andL (andL halfTwoG3))))))) (andR (andL (andL (andL (andL halfTwoG3)))))) (andR (andL (andL (andL halfTwoG3))))) (andR (andL (andL halfTwoG3)))) (andR (andL halfTwoG3))) (andR halfTwoG3))
end Go.Proofs.YtpfglkohcfjelaaGreatDoor
