/- The closed facts of EvalPure's row. -/
import Derived.Test.YtijgifinhbbmaaaGreatDoorWf0
set_option linter.unusedVariables false
set_option maxRecDepth 100000
namespace Go.Proofs.YtijgifinhbbmaaaGreatDoor.evalPure
open Go.ChangeShapes Go.WideShapes Go.ChangeAt Go.RowKit Go.Proofs.YtijgifinhbbmaaaGreatDoor
theorem own : ownKnob Tryz.prog.godebug = none := by kernel_rfl
theorem named : Tryz.prog.funcNamed Rows.evalPureRow.func = some 14 := by kernel_rfl
theorem joined0 : (Rows.evalPureRow.wf (OpenSpec.ofChange (OpenSpec.ofChange Rows.evalPureSpec).bare)) = true := by kernel_rfl
theorem joined3 : (Tryz.f14.params.all (Tryz.prog.readableRec ·)) = true := by kernel_rfl
theorem joined4 : (namedTie Tryz.prog Rows.evalPureRow.named (OpenSpec.ofChange Rows.evalPureSpec).bare.vars) = true := by kernel_rfl
theorem joined5 : ((Rows.evalPureRow.stops == [])) = true := by kernel_rfl
theorem joined7 : ((Rows.evalPureRow.knobs == [])) = true := by kernel_rfl
theorem joined9 : ((Rows.evalPureRow.inPlace == Tryz.prog.inPlace 14)) = true := by kernel_rfl
theorem joined10 : ((Rows.evalPureRow.unfollowed == Tryz.prog.unfollowed 14)) = true := by kernel_rfl
theorem joined11 : ((Rows.evalPureRow.recurses == Tryz.prog.recurses 14)) = true := by kernel_rfl
theorem joined12 : ((Rows.evalPureRow.named == Tryz.prog.varsNamed 14)) = true := by kernel_rfl
theorem joined13 : ((Rows.evalPureRow.maps == (Tryz.f14.params.toList ++ (OpenSpec.ofChange Rows.evalPureSpec).bare.plain.varTypes Tryz.prog).any (Tryz.prog.mapsRec ·))) = true := by kernel_rfl
theorem joined14 : ((Rows.evalPureRow.ifaces == (Tryz.f14.params.toList ++ (OpenSpec.ofChange Rows.evalPureSpec).bare.plain.varTypes Tryz.prog).any (Tryz.prog.ifacesRec ·))) = true := by kernel_rfl
theorem joined15 : ((Rows.evalPureRow.mapsOut == Tryz.prog.mapsAmong Tryz.f14.resultTypes.toList)) = true := by kernel_rfl
theorem joined16 : ((Rows.evalPureRow.loops == (Tryz.f14.params.toList ++ (OpenSpec.ofChange Rows.evalPureSpec).bare.plain.varTypes Tryz.prog).any (Tryz.prog.loopsFrom ·))) = true := by kernel_rfl
theorem joined17 : ((Rows.evalPureRow.wideKeys == (Tryz.f14.params.toList ++ (OpenSpec.ofChange Rows.evalPureSpec).bare.plain.varTypes Tryz.prog ++ Tryz.f14.resultTypes.toList).any (Tryz.prog.wideKeysFrom ·))) = true := by kernel_rfl
theorem joined18 : ((OpenSpec.ofChange Rows.evalPureSpec).bare.vars.all (Tryz.prog.varReadable ·)) = true := by kernel_rfl
theorem joined19 : (Tryz.f14.resultTypes.all (fun t => Tryz.prog.readableRec t && decide (t < Tryz.prog.types.size))) = true := by kernel_rfl
theorem joined20 : ((Rows.evalPureRow.ifacesOut == Tryz.f14.resultTypes.toList.any (Tryz.prog.ifacesRec ·))) = true := by kernel_rfl
theorem joined21 : ((Rows.evalPureRow.loopsOut == Tryz.f14.resultTypes.toList.any (Tryz.prog.loopsFrom ·))) = true := by kernel_rfl
theorem joined22 : ((Rows.evalPureRow.plainKeys == Tryz.prog.plainKeys)) = true := by kernel_rfl
theorem joined23 : (Rows.evalPureRow.shortTexts.isNone) = true := by kernel_rfl
theorem joined26 : ((Rows.evalPureRow.lifted == Tryz.prog.liftsFinal)) = true := by kernel_rfl
theorem joined27 : ((Tryz.prog.make == some Rows.evalPureRow.make)) = true := by kernel_rfl
theorem joined28 : ((Rows.evalPureRow.kinds == (if Rows.evalPureRow.domain.isEmpty then [] else Tryz.f14.params.toList.map fun t => match Tryz.prog.underlying t with | some (.int k) => some k | _ => none))) = true := by kernel_rfl
theorem joined29 : ((Rows.evalPureRow.pinned == Rows.evalPureRow.pinnedBy)) = true := by kernel_rfl
theorem joined30 : ((Rows.evalPureRow.veiled == (Tryz.f14.params.toList ++ (OpenSpec.ofChange Rows.evalPureSpec).bare.plain.varTypes Tryz.prog ++ Tryz.f14.resultTypes.toList).any (Tryz.prog.veiledRec ·))) = true := by kernel_rfl
theorem joined31 : (Rows.evalPureRow.veiledFits Tryz.prog Tryz.f14.params.toList (Tryz.f14.params.toList ++ (OpenSpec.ofChange Rows.evalPureSpec).bare.plain.varTypes Tryz.prog ++ Tryz.f14.resultTypes.toList)) = true := by kernel_rfl
theorem closed : joinedFacts Tryz.prog 14 Tryz.f14 (OpenSpec.ofChange Rows.evalPureSpec).bare Rows.evalPureRow = true := by
  unfold joinedFacts
  exact (band (band (band (band (band (band (band (band (band (band (band (band (band (band (band (band (band (band (band (band (band (band (band (band (band (band (band (band (band (band (band joined0 Go.Proofs.YtijgifinhbbmaaaGreatDoor.joined1) Go.Proofs.YtijgifinhbbmaaaGreatDoor.joined2) joined3) joined4) joined5) Go.Proofs.YtijgifinhbbmaaaGreatDoor.joined6) joined7) Go.Proofs.YtijgifinhbbmaaaGreatDoor.joined8) joined9) joined10) joined11) joined12) joined13) joined14) joined15) joined16) joined17) joined18) joined19) joined20) joined21) joined22) joined23) Go.Proofs.YtijgifinhbbmaaaGreatDoor.joined24) Go.Proofs.YtijgifinhbbmaaaGreatDoor.joined25) joined26) joined27) joined28) joined29) joined30) joined31)
end Go.Proofs.YtijgifinhbbmaaaGreatDoor.evalPure
