/- The closed facts of EvalLets's row. -/
import Derived.Test.YtijgifinhbbmaaaGreatDoorWf0
set_option linter.unusedVariables false
set_option maxRecDepth 100000
namespace Go.Proofs.YtijgifinhbbmaaaGreatDoor.evalLets
open Go.ChangeShapes Go.WideShapes Go.ChangeAt Go.RowKit Go.Proofs.YtijgifinhbbmaaaGreatDoor
theorem own : ownKnob Tryz.prog.godebug = none := by kernel_rfl
theorem named : Tryz.prog.funcNamed Rows.evalLetsRow.func = some 11 := by kernel_rfl
theorem joined0 : (Rows.evalLetsRow.wf (OpenSpec.ofChange (OpenSpec.ofChange Rows.evalLetsSpec).bare)) = true := by kernel_rfl
theorem joined3 : (Tryz.f11.params.all (Tryz.prog.readableRec ·)) = true := by kernel_rfl
theorem joined4 : (namedTie Tryz.prog Rows.evalLetsRow.named (OpenSpec.ofChange Rows.evalLetsSpec).bare.vars) = true := by kernel_rfl
theorem joined5 : ((Rows.evalLetsRow.stops == [])) = true := by kernel_rfl
theorem joined7 : ((Rows.evalLetsRow.knobs == [])) = true := by kernel_rfl
theorem joined9 : ((Rows.evalLetsRow.inPlace == Tryz.prog.inPlace 11)) = true := by kernel_rfl
theorem joined10 : ((Rows.evalLetsRow.unfollowed == Tryz.prog.unfollowed 11)) = true := by kernel_rfl
theorem joined11 : ((Rows.evalLetsRow.recurses == Tryz.prog.recurses 11)) = true := by kernel_rfl
theorem joined12 : ((Rows.evalLetsRow.named == Tryz.prog.varsNamed 11)) = true := by kernel_rfl
theorem joined13 : ((Rows.evalLetsRow.maps == (Tryz.f11.params.toList ++ (OpenSpec.ofChange Rows.evalLetsSpec).bare.plain.varTypes Tryz.prog).any (Tryz.prog.mapsRec ·))) = true := by kernel_rfl
theorem joined14 : ((Rows.evalLetsRow.ifaces == (Tryz.f11.params.toList ++ (OpenSpec.ofChange Rows.evalLetsSpec).bare.plain.varTypes Tryz.prog).any (Tryz.prog.ifacesRec ·))) = true := by kernel_rfl
theorem joined15 : ((Rows.evalLetsRow.mapsOut == Tryz.prog.mapsAmong Tryz.f11.resultTypes.toList)) = true := by kernel_rfl
theorem joined16 : ((Rows.evalLetsRow.loops == (Tryz.f11.params.toList ++ (OpenSpec.ofChange Rows.evalLetsSpec).bare.plain.varTypes Tryz.prog).any (Tryz.prog.loopsFrom ·))) = true := by kernel_rfl
theorem joined17 : ((Rows.evalLetsRow.wideKeys == (Tryz.f11.params.toList ++ (OpenSpec.ofChange Rows.evalLetsSpec).bare.plain.varTypes Tryz.prog ++ Tryz.f11.resultTypes.toList).any (Tryz.prog.wideKeysFrom ·))) = true := by kernel_rfl
theorem joined18 : ((OpenSpec.ofChange Rows.evalLetsSpec).bare.vars.all (Tryz.prog.varReadable ·)) = true := by kernel_rfl
theorem joined19 : (Tryz.f11.resultTypes.all (fun t => Tryz.prog.readableRec t && decide (t < Tryz.prog.types.size))) = true := by kernel_rfl
theorem joined20 : ((Rows.evalLetsRow.ifacesOut == Tryz.f11.resultTypes.toList.any (Tryz.prog.ifacesRec ·))) = true := by kernel_rfl
theorem joined21 : ((Rows.evalLetsRow.loopsOut == Tryz.f11.resultTypes.toList.any (Tryz.prog.loopsFrom ·))) = true := by kernel_rfl
theorem joined22 : ((Rows.evalLetsRow.plainKeys == Tryz.prog.plainKeys)) = true := by kernel_rfl
theorem joined23 : (Rows.evalLetsRow.shortTexts.isNone) = true := by kernel_rfl
theorem joined26 : ((Rows.evalLetsRow.lifted == Tryz.prog.liftsFinal)) = true := by kernel_rfl
theorem joined27 : ((Tryz.prog.make == some Rows.evalLetsRow.make)) = true := by kernel_rfl
theorem joined28 : ((Rows.evalLetsRow.kinds == (if Rows.evalLetsRow.domain.isEmpty then [] else Tryz.f11.params.toList.map fun t => match Tryz.prog.underlying t with | some (.int k) => some k | _ => none))) = true := by kernel_rfl
theorem joined29 : ((Rows.evalLetsRow.pinned == Rows.evalLetsRow.pinnedBy)) = true := by kernel_rfl
theorem joined30 : ((Rows.evalLetsRow.veiled == (Tryz.f11.params.toList ++ (OpenSpec.ofChange Rows.evalLetsSpec).bare.plain.varTypes Tryz.prog ++ Tryz.f11.resultTypes.toList).any (Tryz.prog.veiledRec ·))) = true := by kernel_rfl
theorem joined31 : (Rows.evalLetsRow.veiledFits Tryz.prog Tryz.f11.params.toList (Tryz.f11.params.toList ++ (OpenSpec.ofChange Rows.evalLetsSpec).bare.plain.varTypes Tryz.prog ++ Tryz.f11.resultTypes.toList)) = true := by kernel_rfl
theorem closed : joinedFacts Tryz.prog 11 Tryz.f11 (OpenSpec.ofChange Rows.evalLetsSpec).bare Rows.evalLetsRow = true := by
  unfold joinedFacts
  exact (band (band (band (band (band (band (band (band (band (band (band (band (band (band (band (band (band (band (band (band (band (band (band (band (band (band (band (band (band (band (band joined0 Go.Proofs.YtijgifinhbbmaaaGreatDoor.joined1) Go.Proofs.YtijgifinhbbmaaaGreatDoor.joined2) joined3) joined4) joined5) Go.Proofs.YtijgifinhbbmaaaGreatDoor.joined6) joined7) Go.Proofs.YtijgifinhbbmaaaGreatDoor.joined8) joined9) joined10) joined11) joined12) joined13) joined14) joined15) joined16) joined17) joined18) joined19) joined20) joined21) joined22) joined23) Go.Proofs.YtijgifinhbbmaaaGreatDoor.joined24) Go.Proofs.YtijgifinhbbmaaaGreatDoor.joined25) joined26) joined27) joined28) joined29) joined30) joined31)
end Go.Proofs.YtijgifinhbbmaaaGreatDoor.evalLets
