/- EvalSums: the contract that its row asks. -/
import Derived.Test.YtijgifinhbbmaaaGreatDoorRd
import Derived.Test.YtijgifinhbbmaaaGreatDoorRd2
import Derived.Test.YtijgifinhbbmaaaGreatDoorSm
set_option linter.unusedVariables false
namespace Go.Proofs.YtijgifinhbbmaaaGreatDoor.evalSums
open Go.ChangeShapes Go.WideShapes Go.ChangeAt Go.RowKit Go.Proofs.YtijgifinhbbmaaaGreatDoor Go.Proofs.YtijgifinhbbmaaaGreatDoor.Q
set_option maxRecDepth 100000 in
theorem contract (H : Type) (enc : TypeId × Value → H) (W : World) (base : Nat) (args : Array Value) (ds gs : List (DataW H)) (before : List MemPlace)
    (hval : ∀ (j : Nat) t v, Tryz.f10.params[j]? = some t → args[j]? = some v → Value.okWide Tryz.prog W .any base t v)
    (hW : DataW.Whole enc Tryz.prog Tryz.f10.params.toList Rows.evalSumsSpec.vars false W args.toList ds gs before)
    (hwt : (DataW.weightsEach Tryz.prog (Tryz.f10.params.toList ++ (OpenSpec.ofChange Rows.evalSumsSpec).bare.plain.varTypes Tryz.prog) (ds ++ gs)).all (· ≤ reachBytes) = true) (hS : W.ShapedOpen Tryz.prog) :
    Calls Tryz.prog 10 args W fun e W' => ∃ v, e = .returned v ∧ Rows.evalSumsSpec.post enc Tryz.prog Tryz.f10 false true false false W args v W' := by
  have hW' := hW
  obtain ⟨p, q, hA0, hV, rfl, hfz, hnd⟩ := hW
  have hA : DataW.TrodAll enc Tryz.prog W 0 (fun _ => true) true Tryz.f10.params.toList args.toList ds p := hA0
  rw [Tryz.params10] at hA hval hwt
  obtain ⟨v0, vs0, d0, ds0, p0, q0, hargs, rfl, rfl, h0, r0⟩ := trodAll_cons hA
  obtain ⟨rfl, rfl, rfl⟩ := trodAll_nil r0
  obtain rfl : args = #[v0] := by cases args; simp_all
  obtain ⟨rfl, rfl⟩ := trodVars_none hV
  have hlt := hW'.lt
  have hw0 : ∀ k ∈ d0.weights Tryz.prog 82, k ≤ reachBytes := fun k hk => of_decide_eq_true (List.all_eq_true.1 hwt k (DataW.weights_mem_each (j := 0) rfl rfl k hk))
  have t0 := h0
  obtain ⟨l0, A0, c0, rfl, hc0, hC0, hx0, hl0⟩ := arg_exs (hval 0 82 v0 rfl rfl) h0 hw0
  refine (sums_calls l0 A0 c0 W hC0 hc0 hx0 hl0 (has5 hS)).mono fun e W' ⟨he, hb⟩ => ?_
  subst he
  have rd0 : Tryz.prog.readableRec 82 = true := by kernel_rfl
  refine ⟨_, rfl, _, _, _, [], p0 ++ ([]), [], hW', trodAll_cons_mk (shut_bool Tryz.underlying4 _) trodAll_mk0, ?_, rfl, ?_, fun h => by cases h⟩
  · exact trodAll_cons_mk (Below.trod laidOut rd0 (of_decide_eq_true (by kernel_rfl)) t0 hb fun z hz => hlt z (by simp [hz])) (trodAll_mk0)
  · exact hb.frame _
end Go.Proofs.YtijgifinhbbmaaaGreatDoor.evalSums
