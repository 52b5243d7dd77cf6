/- EvalMeans: the contract that its row asks. -/
import Derived.Test.YtijgifinhbbmaaaGreatDoorRd
import Derived.Test.YtijgifinhbbmaaaGreatDoorM
set_option linter.unusedVariables false
namespace Go.Proofs.YtijgifinhbbmaaaGreatDoor.evalMeans
open Go.ChangeShapes Go.WideShapes Go.ChangeAt Go.RowKit Go.Proofs.YtijgifinhbbmaaaGreatDoor Go.Proofs.YtijgifinhbbmaaaGreatDoor.Q
set_option maxRecDepth 100000 in
theorem contract (H : Type) (enc : TypeId × Value → H) (W : World) (base : Nat) (args : Array Value) (ds gs : List (DataW H)) (before : List MemPlace)
    (hval : ∀ (j : Nat) t v, Tryz.f8.params[j]? = some t → args[j]? = some v → Value.okWide Tryz.prog W .any base t v)
    (hW : DataW.Whole enc Tryz.prog Tryz.f8.params.toList Rows.evalMeansSpec.vars false W args.toList ds gs before)
    (hwt : (DataW.weightsEach Tryz.prog (Tryz.f8.params.toList ++ (OpenSpec.ofChange Rows.evalMeansSpec).bare.plain.varTypes Tryz.prog) (ds ++ gs)).all (· ≤ reachBytes) = true) (hS : W.ShapedOpen Tryz.prog) :
    Calls Tryz.prog 8 args W fun e W' => ∃ v, e = .returned v ∧ Rows.evalMeansSpec.post enc Tryz.prog Tryz.f8 false true false false W args v W' := by
  have hW' := hW
  obtain ⟨p, q, hA0, hV, rfl, hfz, hnd⟩ := hW
  have hA : DataW.TrodAll enc Tryz.prog W 0 (fun _ => true) true Tryz.f8.params.toList args.toList ds p := hA0
  rw [Tryz.params8] at hA hval hwt
  obtain ⟨v0, vs0, d0, ds0, p0, q0, hargs, rfl, rfl, h0, r0⟩ := trodAll_cons hA
  obtain ⟨rfl, rfl, rfl⟩ := trodAll_nil r0
  obtain rfl : args = #[v0] := by cases args; simp_all
  obtain ⟨rfl, rfl⟩ := trodVars_none hV
  have hlt := hW'.lt
  have hw0 : ∀ k ∈ d0.weights Tryz.prog 84, k ≤ reachBytes := fun k hk => of_decide_eq_true (List.all_eq_true.1 hwt k (DataW.weights_mem_each (j := 0) rfl rfl k hk))
  obtain ⟨x, A, c, rfl, hx1, hx2, hx3⟩ := arg_ex (hval 0 84 v0 rfl rfl) h0 hw0
  obtain ⟨k, hk⟩ := means_f hx3
  refine (saplinglaw13_EvalMeans.calls k x.f0 x.f1 A c x.f2 true W hx2 hx1 (has5 hS) hk).mono fun e W' ⟨he, hb⟩ => ?_
  subst he
  have rd : Tryz.prog.readableRec 84 = true := by kernel_rfl
  refine ⟨_, rfl, _, _, _, [], p0 ++ [], [], hW', trodAll_cons_mk (shut_bool Tryz.underlying4 _) trodAll_mk0, ?_, rfl, ?_, fun h => by cases h⟩
  · exact trodAll_cons_mk (Below.trod laidOut rd (of_decide_eq_true (by kernel_rfl)) h0 hb fun z hz => hlt z (by simp [hz])) trodAll_mk0
  · exact hb.frame _
end Go.Proofs.YtijgifinhbbmaaaGreatDoor.evalMeans
