/- The closed facts of EvalMeans's row. -/
import Derived.Test.YtijgifinhbbmaaaGreatDoorWf0
set_option linter.unusedVariables false
set_option maxRecDepth 100000
namespace Go.Proofs.YtijgifinhbbmaaaGreatDoor.evalMeans
open Go.ChangeShapes Go.WideShapes Go.ChangeAt Go.RowKit Go.Proofs.YtijgifinhbbmaaaGreatDoor
theorem own : ownKnob Tryz.prog.godebug = none := by kernel_rfl
theorem named : Tryz.prog.funcNamed Rows.evalMeansRow.func = some 8 := by kernel_rfl
theorem joined0 : (Rows.evalMeansRow.wf (OpenSpec.ofChange (OpenSpec.ofChange Rows.evalMeansSpec).bare)) = true := by kernel_rfl
theorem joined3 : (Tryz.f8.params.all (Tryz.prog.readableRec ·)) = true := by kernel_rfl
theorem joined4 : (namedTie Tryz.prog Rows.evalMeansRow.named (OpenSpec.ofChange Rows.evalMeansSpec).bare.vars) = true := by kernel_rfl
theorem joined5 : ((Rows.evalMeansRow.stops == [])) = true := by kernel_rfl
theorem joined7 : ((Rows.evalMeansRow.knobs == [])) = true := by kernel_rfl
theorem joined9 : ((Rows.evalMeansRow.inPlace == Tryz.prog.inPlace 8)) = true := by kernel_rfl
theorem joined10 : ((Rows.evalMeansRow.unfollowed == Tryz.prog.unfollowed 8)) = true := by kernel_rfl
theorem joined11 : ((Rows.evalMeansRow.recurses == Tryz.prog.recurses 8)) = true := by kernel_rfl
theorem joined12 : ((Rows.evalMeansRow.named == Tryz.prog.varsNamed 8)) = true := by kernel_rfl
theorem joined13 : ((Rows.evalMeansRow.maps == (Tryz.f8.params.toList ++ (OpenSpec.ofChange Rows.evalMeansSpec).bare.plain.varTypes Tryz.prog).any (Tryz.prog.mapsRec ·))) = true := by kernel_rfl
theorem joined14 : ((Rows.evalMeansRow.ifaces == (Tryz.f8.params.toList ++ (OpenSpec.ofChange Rows.evalMeansSpec).bare.plain.varTypes Tryz.prog).any (Tryz.prog.ifacesRec ·))) = true := by kernel_rfl
theorem joined15 : ((Rows.evalMeansRow.mapsOut == Tryz.prog.mapsAmong Tryz.f8.resultTypes.toList)) = true := by kernel_rfl
theorem joined16 : ((Rows.evalMeansRow.loops == (Tryz.f8.params.toList ++ (OpenSpec.ofChange Rows.evalMeansSpec).bare.plain.varTypes Tryz.prog).any (Tryz.prog.loopsFrom ·))) = true := by kernel_rfl
theorem joined17 : ((Rows.evalMeansRow.wideKeys == (Tryz.f8.params.toList ++ (OpenSpec.ofChange Rows.evalMeansSpec).bare.plain.varTypes Tryz.prog ++ Tryz.f8.resultTypes.toList).any (Tryz.prog.wideKeysFrom ·))) = true := by kernel_rfl
theorem joined18 : ((OpenSpec.ofChange Rows.evalMeansSpec).bare.vars.all (Tryz.prog.varReadable ·)) = true := by kernel_rfl
theorem joined19 : (Tryz.f8.resultTypes.all (fun t => Tryz.prog.readableRec t && decide (t < Tryz.prog.types.size))) = true := by kernel_rfl
theorem joined20 : ((Rows.evalMeansRow.ifacesOut == Tryz.f8.resultTypes.toList.any (Tryz.prog.ifacesRec ·))) = true := by kernel_rfl
theorem joined21 : ((Rows.evalMeansRow.loopsOut == Tryz.f8.resultTypes.toList.any (Tryz.prog.loopsFrom ·))) = true := by kernel_rfl
theorem joined22 : ((Rows.evalMeansRow.plainKeys == Tryz.prog.plainKeys)) = true := by kernel_rfl
theorem joined23 : (Rows.evalMeansRow.shortTexts.isNone) = true := by kernel_rfl
theorem joined26 : ((Rows.evalMeansRow.lifted == Tryz.prog.liftsFinal)) = true := by kernel_rfl
theorem joined27 : ((Tryz.prog.make == some Rows.evalMeansRow.make)) = true := by kernel_rfl
theorem joined28 : ((Rows.evalMeansRow.kinds == (if Rows.evalMeansRow.domain.isEmpty then [] else Tryz.f8.params.toList.map fun t => match Tryz.prog.underlying t with | some (.int k) => some k | _ => none))) = true := by kernel_rfl
theorem joined29 : ((Rows.evalMeansRow.pinned == Rows.evalMeansRow.pinnedBy)) = true := by kernel_rfl
theorem joined30 : ((Rows.evalMeansRow.veiled == (Tryz.f8.params.toList ++ (OpenSpec.ofChange Rows.evalMeansSpec).bare.plain.varTypes Tryz.prog ++ Tryz.f8.resultTypes.toList).any (Tryz.prog.veiledRec ·))) = true := by kernel_rfl
theorem joined31 : (Rows.evalMeansRow.veiledFits Tryz.prog Tryz.f8.params.toList (Tryz.f8.params.toList ++ (OpenSpec.ofChange Rows.evalMeansSpec).bare.plain.varTypes Tryz.prog ++ Tryz.f8.resultTypes.toList)) = true := by kernel_rfl
theorem closed : joinedFacts Tryz.prog 8 Tryz.f8 (OpenSpec.ofChange Rows.evalMeansSpec).bare Rows.evalMeansRow = true := by
  unfold joinedFacts
  exact (band (band (band (band (band (band (band (band (band (band (band (band (band (band (band (band (band (band (band (band (band (band (band (band (band (band (band (band (band (band (band joined0 Go.Proofs.YtijgifinhbbmaaaGreatDoor.joined1) Go.Proofs.YtijgifinhbbmaaaGreatDoor.joined2) joined3) joined4) joined5) Go.Proofs.YtijgifinhbbmaaaGreatDoor.joined6) joined7) Go.Proofs.YtijgifinhbbmaaaGreatDoor.joined8) joined9) joined10) joined11) joined12) joined13) joined14) joined15) joined16) joined17) joined18) joined19) joined20) joined21) joined22) joined23) Go.Proofs.YtijgifinhbbmaaaGreatDoor.joined24) Go.Proofs.YtijgifinhbbmaaaGreatDoor.joined25) joined26) joined27) joined28) joined29) joined30) joined31)
end Go.Proofs.YtijgifinhbbmaaaGreatDoor.evalMeans
