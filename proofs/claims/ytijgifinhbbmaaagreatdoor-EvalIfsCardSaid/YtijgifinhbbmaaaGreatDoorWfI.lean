/- The closed facts of EvalIfs's row. -/
import Derived.Test.YtijgifinhbbmaaaGreatDoorWf0
set_option linter.unusedVariables false
set_option maxRecDepth 100000
namespace Go.Proofs.YtijgifinhbbmaaaGreatDoor.evalIfs
open Go.ChangeShapes Go.WideShapes Go.ChangeAt Go.RowKit Go.Proofs.YtijgifinhbbmaaaGreatDoor
theorem own : ownKnob Tryz.prog.godebug = none := by kernel_rfl
theorem named : Tryz.prog.funcNamed Rows.evalIfsRow.func = some 13 := by kernel_rfl
theorem joined0 : (Rows.evalIfsRow.wf (OpenSpec.ofChange (OpenSpec.ofChange Rows.evalIfsSpec).bare)) = true := by kernel_rfl
theorem joined3 : (Tryz.f13.params.all (Tryz.prog.readableRec ·)) = true := by kernel_rfl
theorem joined4 : (namedTie Tryz.prog Rows.evalIfsRow.named (OpenSpec.ofChange Rows.evalIfsSpec).bare.vars) = true := by kernel_rfl
theorem joined5 : ((Rows.evalIfsRow.stops == [])) = true := by kernel_rfl
theorem joined7 : ((Rows.evalIfsRow.knobs == [])) = true := by kernel_rfl
theorem joined9 : ((Rows.evalIfsRow.inPlace == Tryz.prog.inPlace 13)) = true := by kernel_rfl
theorem joined10 : ((Rows.evalIfsRow.unfollowed == Tryz.prog.unfollowed 13)) = true := by kernel_rfl
theorem joined11 : ((Rows.evalIfsRow.recurses == Tryz.prog.recurses 13)) = true := by kernel_rfl
theorem joined12 : ((Rows.evalIfsRow.named == Tryz.prog.varsNamed 13)) = true := by kernel_rfl
theorem joined13 : ((Rows.evalIfsRow.maps == (Tryz.f13.params.toList ++ (OpenSpec.ofChange Rows.evalIfsSpec).bare.plain.varTypes Tryz.prog).any (Tryz.prog.mapsRec ·))) = true := by kernel_rfl
theorem joined14 : ((Rows.evalIfsRow.ifaces == (Tryz.f13.params.toList ++ (OpenSpec.ofChange Rows.evalIfsSpec).bare.plain.varTypes Tryz.prog).any (Tryz.prog.ifacesRec ·))) = true := by kernel_rfl
theorem joined15 : ((Rows.evalIfsRow.mapsOut == Tryz.prog.mapsAmong Tryz.f13.resultTypes.toList)) = true := by kernel_rfl
theorem joined16 : ((Rows.evalIfsRow.loops == (Tryz.f13.params.toList ++ (OpenSpec.ofChange Rows.evalIfsSpec).bare.plain.varTypes Tryz.prog).any (Tryz.prog.loopsFrom ·))) = true := by kernel_rfl
theorem joined17 : ((Rows.evalIfsRow.wideKeys == (Tryz.f13.params.toList ++ (OpenSpec.ofChange Rows.evalIfsSpec).bare.plain.varTypes Tryz.prog ++ Tryz.f13.resultTypes.toList).any (Tryz.prog.wideKeysFrom ·))) = true := by kernel_rfl
theorem joined18 : ((OpenSpec.ofChange Rows.evalIfsSpec).bare.vars.all (Tryz.prog.varReadable ·)) = true := by kernel_rfl
theorem joined19 : (Tryz.f13.resultTypes.all (fun t => Tryz.prog.readableRec t && decide (t < Tryz.prog.types.size))) = true := by kernel_rfl
theorem joined20 : ((Rows.evalIfsRow.ifacesOut == Tryz.f13.resultTypes.toList.any (Tryz.prog.ifacesRec ·))) = true := by kernel_rfl
theorem joined21 : ((Rows.evalIfsRow.loopsOut == Tryz.f13.resultTypes.toList.any (Tryz.prog.loopsFrom ·))) = true := by kernel_rfl
theorem joined22 : ((Rows.evalIfsRow.plainKeys == Tryz.prog.plainKeys)) = true := by kernel_rfl
theorem joined23 : (Rows.evalIfsRow.shortTexts.isNone) = true := by kernel_rfl
theorem joined26 : ((Rows.evalIfsRow.lifted == Tryz.prog.liftsFinal)) = true := by kernel_rfl
theorem joined27 : ((Tryz.prog.make == some Rows.evalIfsRow.make)) = true := by kernel_rfl
theorem joined28 : ((Rows.evalIfsRow.kinds == (if Rows.evalIfsRow.domain.isEmpty then [] else Tryz.f13.params.toList.map fun t => match Tryz.prog.underlying t with | some (.int k) => some k | _ => none))) = true := by kernel_rfl
theorem joined29 : ((Rows.evalIfsRow.pinned == Rows.evalIfsRow.pinnedBy)) = true := by kernel_rfl
theorem joined30 : ((Rows.evalIfsRow.veiled == (Tryz.f13.params.toList ++ (OpenSpec.ofChange Rows.evalIfsSpec).bare.plain.varTypes Tryz.prog ++ Tryz.f13.resultTypes.toList).any (Tryz.prog.veiledRec ·))) = true := by kernel_rfl
theorem joined31 : (Rows.evalIfsRow.veiledFits Tryz.prog Tryz.f13.params.toList (Tryz.f13.params.toList ++ (OpenSpec.ofChange Rows.evalIfsSpec).bare.plain.varTypes Tryz.prog ++ Tryz.f13.resultTypes.toList)) = true := by kernel_rfl
theorem closed : joinedFacts Tryz.prog 13 Tryz.f13 (OpenSpec.ofChange Rows.evalIfsSpec).bare Rows.evalIfsRow = true := by
  unfold joinedFacts
  exact (band (band (band (band (band (band (band (band (band (band (band (band (band (band (band (band (band (band (band (band (band (band (band (band (band (band (band (band (band (band (band joined0 Go.Proofs.YtijgifinhbbmaaaGreatDoor.joined1) Go.Proofs.YtijgifinhbbmaaaGreatDoor.joined2) joined3) joined4) joined5) Go.Proofs.YtijgifinhbbmaaaGreatDoor.joined6) joined7) Go.Proofs.YtijgifinhbbmaaaGreatDoor.joined8) joined9) joined10) joined11) joined12) joined13) joined14) joined15) joined16) joined17) joined18) joined19) joined20) joined21) joined22) joined23) Go.Proofs.YtijgifinhbbmaaaGreatDoor.joined24) Go.Proofs.YtijgifinhbbmaaaGreatDoor.joined25) joined26) joined27) joined28) joined29) joined30) joined31)
end Go.Proofs.YtijgifinhbbmaaaGreatDoor.evalIfs
