/- EvalLets: true of every input that its row speaks of: the row and its card. -/
import Derived.Test.YtijgifinhbbmaaaGreatDoorWpL
import Derived.Test.YtijgifinhbbmaaaGreatDoorWfL
import Derived.Test.YtijgifinhbbmaaaGreatDoorWw
set_option linter.unusedVariables false
namespace Go.Proofs.YtijgifinhbbmaaaGreatDoor.evalLets
open Go.ChangeShapes Go.WideShapes Go.ChangeAt Go.RowKit Go.Proofs.YtijgifinhbbmaaaGreatDoor
def wit : Array Value := #[.string ⟨#[]⟩, .string ⟨#[]⟩, .agg #[.int .i64 0, .string ⟨#[]⟩, .slice none 0 0]]
set_option maxRecDepth 100000 in
theorem laidOk (os : Os) : laidMet Tryz.prog Rows.evalLetsRow.laid ((laidWorld os).forCall (fun _ _ => 0) ⟨#[], wit, []⟩).memory := laid_met os _
set_option maxRecDepth 100000 in
theorem reads (os : Os) {H : Type} (enc : TypeId × Value → H) : ∃ places, DataW.whole enc Tryz.prog ((laidWorld os).forCall (fun _ _ => 0) ⟨#[], wit, []⟩).memory Tryz.f11.params.toList Rows.evalLetsSpec.vars false wit.toList 8 = some ([.lit (.string []), .lit (.string []), .agg [.lit (.int .i64 0), .lit (.string []), .nil]], [], places) :=
  ⟨[], by kernel_rfl⟩
set_option maxRecDepth 100000 in
theorem noInit : Tryz.checked.prog.inits.idxOf? 11 = none := by kernel_rfl
set_option maxRecDepth 100000 in
theorem lifted (os : Os) (started : os.Started) (H : Type) (enc : TypeId × Value → H) (F : Stop.Interp) :
    ReturnsInHanded {} Tryz.checked os 11 .any ((OpenSpec.ofChange Rows.evalLetsSpec).preRow enc Tryz.prog Tryz.f11 Rows.evalLetsRow.domain false Rows.evalLetsRow.laid) (((OpenSpec.ofChange Rows.evalLetsSpec).at F).post enc Tryz.prog Tryz.f11 false true false false) := by
  obtain ⟨places, hx⟩ := reads os enc
  refine returnsInHanded_of_row (C := Tryz.checked) (s := OpenSpec.ofChange Rows.evalLetsSpec) own started noInit Tryz.func11
    (witness_row_atRef (enc := enc) (C := Tryz.checked) false (laidWorld os) wit rfl (by as_aux_lemma => kernel_rfl) (by as_aux_lemma => kernel_rfl) (by as_aux_lemma => kernel_rfl)
      (OpenSpec.preRow_of_cond 8 hx (by as_aux_lemma => kernel_rfl) (fun k hk => by cases hk) (by as_aux_lemma => kernel_rfl) (laidOk os))) ?_
  intro W base args ds gs before hval hW _ _ hwt hL hS _
  exact contract H enc W base args ds gs before hval hW hwt hS
set_option maxRecDepth 100000 in
theorem inst : Tryz.f11.isInstance Tryz.pinned.checked.prog Rows.evalLetsRow.origin Rows.evalLetsRow.targs := of_decide_eq_true (by kernel_rfl)
set_option maxRecDepth 100000 in
theorem wrap : Tryz.f11.isWrapper Tryz.pinned.checked.prog Rows.evalLetsRow.wrapper Rows.evalLetsRow.mainSum := by unfold Func.isWrapper; first | (rw [if_pos (by decide +kernel)]; kernel_rfl) | (rw [if_neg (by decide +kernel)]; exact ⟨rfl, rfl⟩)
theorem said : Rows.EvalLetsSaid :=
  OpenClaim.holds_of_cond 11 Tryz.f11 rfl rfl rfl rfl rfl rfl rfl ⟨rfl, rfl, rfl, rfl, rfl⟩ rfl rfl rfl rfl rfl named Tryz.func11 closed inst wrap
    (fun os started H enc _ F => by rw [OpenClaim.pre_eq_preRow]; exact lifted os started H enc F)
set_option maxRecDepth 100000 in
theorem looked : true = Tryz.pinned.checked.prog.looks [] := by kernel_rfl
theorem stand0 : Tryz.prog.wantsStandIn 9 = false := by kernel_rfl
theorem stand1 : Tryz.prog.wantsStandIn 9 = false := by kernel_rfl
theorem stand2 : Tryz.prog.wantsStandIn 84 = false := by kernel_rfl
theorem plain (f : FuncId) (fn : Func) (hf : Tryz.pinned.checked.prog.funcNamed "sapling/saplinglaw13.EvalLets" = some f) (hfn : Tryz.pinned.checked.prog.funcs[f]? = some fn) :
    true = Tryz.pinned.checked.prog.looks [] ∧ ∀ (j : Nat) t, fn.params[j]? = some t → Tryz.pinned.checked.prog.wantsStandIn t = false := by
  obtain rfl : f = 11 := (Option.some.inj (named.symm.trans hf)).symm
  obtain rfl : fn = Tryz.f11 := (Option.some.inj (Tryz.func11.symm.trans hfn)).symm
  refine ⟨looked, fun j t ht => ?_⟩
  rw [Tryz.params11] at ht
  have hm := Array.mem_of_getElem? ht
  simp only [List.mem_cons, List.not_mem_nil, or_false, List.mem_toArray] at hm
  rcases hm with rfl | rfl | rfl
  · exact stand0
  · exact stand1
  · exact stand2
set_option maxRecDepth 100000 in
theorem card : Rows.EvalLetsCardSaid :=
  Claim7.holds_tied_plain_at .later [] _ _ _ _ said (fun _ h => by cases h) (by as_aux_lemma => kernel_rfl) (fun _ h => by cases h) evalLets_row_tie rfl ⟨rfl, rfl⟩ (by as_aux_lemma => kernel_rfl) rfl plain (by as_aux_lemma => kernel_rfl)
end Go.Proofs.YtijgifinhbbmaaaGreatDoor.evalLets
