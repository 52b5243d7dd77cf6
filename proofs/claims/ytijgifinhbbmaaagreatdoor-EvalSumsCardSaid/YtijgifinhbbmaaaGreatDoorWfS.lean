/- The closed facts of EvalSums's row. -/
import Derived.Test.YtijgifinhbbmaaaGreatDoorWf0
set_option linter.unusedVariables false
set_option maxRecDepth 100000
namespace Go.Proofs.YtijgifinhbbmaaaGreatDoor.evalSums
open Go.ChangeShapes Go.WideShapes Go.ChangeAt Go.RowKit Go.Proofs.YtijgifinhbbmaaaGreatDoor
theorem own : ownKnob Tryz.prog.godebug = none := by kernel_rfl
theorem named : Tryz.prog.funcNamed Rows.evalSumsRow.func = some 10 := by kernel_rfl
theorem joined0 : (Rows.evalSumsRow.wf (OpenSpec.ofChange (OpenSpec.ofChange Rows.evalSumsSpec).bare)) = true := by kernel_rfl
theorem joined3 : (Tryz.f10.params.all (Tryz.prog.readableRec ·)) = true := by kernel_rfl
theorem joined4 : (namedTie Tryz.prog Rows.evalSumsRow.named (OpenSpec.ofChange Rows.evalSumsSpec).bare.vars) = true := by kernel_rfl
theorem joined5 : ((Rows.evalSumsRow.stops == [])) = true := by kernel_rfl
theorem joined7 : ((Rows.evalSumsRow.knobs == [])) = true := by kernel_rfl
theorem joined9 : ((Rows.evalSumsRow.inPlace == Tryz.prog.inPlace 10)) = true := by kernel_rfl
theorem joined10 : ((Rows.evalSumsRow.unfollowed == Tryz.prog.unfollowed 10)) = true := by kernel_rfl
theorem joined11 : ((Rows.evalSumsRow.recurses == Tryz.prog.recurses 10)) = true := by kernel_rfl
theorem joined12 : ((Rows.evalSumsRow.named == Tryz.prog.varsNamed 10)) = true := by kernel_rfl
theorem joined13 : ((Rows.evalSumsRow.maps == (Tryz.f10.params.toList ++ (OpenSpec.ofChange Rows.evalSumsSpec).bare.plain.varTypes Tryz.prog).any (Tryz.prog.mapsRec ·))) = true := by kernel_rfl
theorem joined14 : ((Rows.evalSumsRow.ifaces == (Tryz.f10.params.toList ++ (OpenSpec.ofChange Rows.evalSumsSpec).bare.plain.varTypes Tryz.prog).any (Tryz.prog.ifacesRec ·))) = true := by kernel_rfl
theorem joined15 : ((Rows.evalSumsRow.mapsOut == Tryz.prog.mapsAmong Tryz.f10.resultTypes.toList)) = true := by kernel_rfl
theorem joined16 : ((Rows.evalSumsRow.loops == (Tryz.f10.params.toList ++ (OpenSpec.ofChange Rows.evalSumsSpec).bare.plain.varTypes Tryz.prog).any (Tryz.prog.loopsFrom ·))) = true := by kernel_rfl
theorem joined17 : ((Rows.evalSumsRow.wideKeys == (Tryz.f10.params.toList ++ (OpenSpec.ofChange Rows.evalSumsSpec).bare.plain.varTypes Tryz.prog ++ Tryz.f10.resultTypes.toList).any (Tryz.prog.wideKeysFrom ·))) = true := by kernel_rfl
theorem joined18 : ((OpenSpec.ofChange Rows.evalSumsSpec).bare.vars.all (Tryz.prog.varReadable ·)) = true := by kernel_rfl
theorem joined19 : (Tryz.f10.resultTypes.all (fun t => Tryz.prog.readableRec t && decide (t < Tryz.prog.types.size))) = true := by kernel_rfl
theorem joined20 : ((Rows.evalSumsRow.ifacesOut == Tryz.f10.resultTypes.toList.any (Tryz.prog.ifacesRec ·))) = true := by kernel_rfl
theorem joined21 : ((Rows.evalSumsRow.loopsOut == Tryz.f10.resultTypes.toList.any (Tryz.prog.loopsFrom ·))) = true := by kernel_rfl
theorem joined22 : ((Rows.evalSumsRow.plainKeys == Tryz.prog.plainKeys)) = true := by kernel_rfl
theorem joined23 : (Rows.evalSumsRow.shortTexts.isNone) = true := by kernel_rfl
theorem joined26 : ((Rows.evalSumsRow.lifted == Tryz.prog.liftsFinal)) = true := by kernel_rfl
theorem joined27 : ((Tryz.prog.make == some Rows.evalSumsRow.make)) = true := by kernel_rfl
theorem joined28 : ((Rows.evalSumsRow.kinds == (if Rows.evalSumsRow.domain.isEmpty then [] else Tryz.f10.params.toList.map fun t => match Tryz.prog.underlying t with | some (.int k) => some k | _ => none))) = true := by kernel_rfl
theorem joined29 : ((Rows.evalSumsRow.pinned == Rows.evalSumsRow.pinnedBy)) = true := by kernel_rfl
theorem joined30 : ((Rows.evalSumsRow.veiled == (Tryz.f10.params.toList ++ (OpenSpec.ofChange Rows.evalSumsSpec).bare.plain.varTypes Tryz.prog ++ Tryz.f10.resultTypes.toList).any (Tryz.prog.veiledRec ·))) = true := by kernel_rfl
theorem joined31 : (Rows.evalSumsRow.veiledFits Tryz.prog Tryz.f10.params.toList (Tryz.f10.params.toList ++ (OpenSpec.ofChange Rows.evalSumsSpec).bare.plain.varTypes Tryz.prog ++ Tryz.f10.resultTypes.toList)) = true := by kernel_rfl
theorem closed : joinedFacts Tryz.prog 10 Tryz.f10 (OpenSpec.ofChange Rows.evalSumsSpec).bare Rows.evalSumsRow = true := by
  unfold joinedFacts
  exact (band (band (band (band (band (band (band (band (band (band (band (band (band (band (band (band (band (band (band (band (band (band (band (band (band (band (band (band (band (band (band joined0 Go.Proofs.YtijgifinhbbmaaaGreatDoor.joined1) Go.Proofs.YtijgifinhbbmaaaGreatDoor.joined2) joined3) joined4) joined5) Go.Proofs.YtijgifinhbbmaaaGreatDoor.joined6) joined7) Go.Proofs.YtijgifinhbbmaaaGreatDoor.joined8) joined9) joined10) joined11) joined12) joined13) joined14) joined15) joined16) joined17) joined18) joined19) joined20) joined21) joined22) joined23) Go.Proofs.YtijgifinhbbmaaaGreatDoor.joined24) Go.Proofs.YtijgifinhbbmaaaGreatDoor.joined25) joined26) joined27) joined28) joined29) joined30) joined31)
end Go.Proofs.YtijgifinhbbmaaaGreatDoor.evalSums
