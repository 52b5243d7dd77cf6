/- EvalLets: the contract that its row asks. -/
import Derived.Test.YtijgifinhbbmaaaGreatDoorRd
import Derived.Test.YtijgifinhbbmaaaGreatDoorRd2
import Derived.Test.YtijgifinhbbmaaaGreatDoorLt
set_option linter.unusedVariables false
namespace Go.Proofs.YtijgifinhbbmaaaGreatDoor.evalLets
open Go.ChangeShapes Go.WideShapes Go.ChangeAt Go.RowKit Go.Proofs.YtijgifinhbbmaaaGreatDoor Go.Proofs.YtijgifinhbbmaaaGreatDoor.Q
set_option maxRecDepth 100000 in
theorem contract (H : Type) (enc : TypeId × Value → H) (W : World) (base : Nat) (args : Array Value) (ds gs : List (DataW H)) (before : List MemPlace)
    (hval : ∀ (j : Nat) t v, Tryz.f11.params[j]? = some t → args[j]? = some v → Value.okWide Tryz.prog W .any base t v)
    (hW : DataW.Whole enc Tryz.prog Tryz.f11.params.toList Rows.evalLetsSpec.vars false W args.toList ds gs before)
    (hwt : (DataW.weightsEach Tryz.prog (Tryz.f11.params.toList ++ (OpenSpec.ofChange Rows.evalLetsSpec).bare.plain.varTypes Tryz.prog) (ds ++ gs)).all (· ≤ reachBytes) = true) (hS : W.ShapedOpen Tryz.prog) :
    Calls Tryz.prog 11 args W fun e W' => ∃ v, e = .returned v ∧ Rows.evalLetsSpec.post enc Tryz.prog Tryz.f11 false true false false W args v W' := by
  have hW' := hW
  obtain ⟨p, q, hA0, hV, rfl, hfz, hnd⟩ := hW
  have hA : DataW.TrodAll enc Tryz.prog W 0 (fun _ => true) true Tryz.f11.params.toList args.toList ds p := hA0
  rw [Tryz.params11] at hA hval hwt
  obtain ⟨v0, vs0, d0, ds0, p0, q0, hargs, rfl, rfl, h0, r0⟩ := trodAll_cons hA
  obtain ⟨v1, vs1, d1, ds1, p1, q1, rfl, rfl, rfl, h1, r1⟩ := trodAll_cons r0
  obtain ⟨v2, vs2, d2, ds2, p2, q2, rfl, rfl, rfl, h2, r2⟩ := trodAll_cons r1
  obtain ⟨rfl, rfl, rfl⟩ := trodAll_nil r2
  obtain rfl : args = #[v0, v1, v2] := by cases args; simp_all
  obtain ⟨rfl, rfl⟩ := trodVars_none hV
  have hlt := hW'.lt
  have hw0 : ∀ k ∈ d0.weights Tryz.prog 9, k ≤ reachBytes := fun k hk => of_decide_eq_true (List.all_eq_true.1 hwt k (DataW.weights_mem_each (j := 0) rfl rfl k hk))
  have hw1 : ∀ k ∈ d1.weights Tryz.prog 9, k ≤ reachBytes := fun k hk => of_decide_eq_true (List.all_eq_true.1 hwt k (DataW.weights_mem_each (j := 1) rfl rfl k hk))
  have hw2 : ∀ k ∈ d2.weights Tryz.prog 84, k ≤ reachBytes := fun k hk => of_decide_eq_true (List.all_eq_true.1 hwt k (DataW.weights_mem_each (j := 2) rfl rfl k hk))
  have t0 := h0
  obtain ⟨s0, rfl, hs0⟩ := arg_str (hval 0 9 v0 rfl rfl) h0 hw0
  have t1 := h1
  obtain ⟨s1, rfl, hs1⟩ := arg_str (hval 1 9 v1 rfl rfl) h1 hw1
  have t2 := h2
  obtain ⟨x2, A2, c2, rfl, hc2, hC2, hx2⟩ := arg_ex (hval 2 84 v2 rfl rfl) h2 hw2
  refine (lets_calls s0 s1 x2 A2 c2 W hx2 (by omega) (by omega) hC2 hc2 (has5 hS)).mono fun e W' ⟨he, hb⟩ => ?_
  subst he
  have rd0 : Tryz.prog.readableRec 9 = true := by kernel_rfl
  have rd1 : Tryz.prog.readableRec 9 = true := by kernel_rfl
  have rd2 : Tryz.prog.readableRec 84 = true := by kernel_rfl
  refine ⟨_, rfl, _, _, _, [], p0 ++ (p1 ++ (p2 ++ ([]))), [], hW', trodAll_cons_mk (shut_bool Tryz.underlying4 _) trodAll_mk0, ?_, rfl, ?_, fun h => by cases h⟩
  · exact trodAll_cons_mk (Below.trod laidOut rd0 (of_decide_eq_true (by kernel_rfl)) t0 hb fun z hz => hlt z (by simp [hz])) (trodAll_cons_mk (Below.trod laidOut rd1 (of_decide_eq_true (by kernel_rfl)) t1 hb fun z hz => hlt z (by simp [hz])) (trodAll_cons_mk (Below.trod laidOut rd2 (of_decide_eq_true (by kernel_rfl)) t2 hb fun z hz => hlt z (by simp [hz])) (trodAll_mk0)))
  · exact hb.frame _
end Go.Proofs.YtijgifinhbbmaaaGreatDoor.evalLets
