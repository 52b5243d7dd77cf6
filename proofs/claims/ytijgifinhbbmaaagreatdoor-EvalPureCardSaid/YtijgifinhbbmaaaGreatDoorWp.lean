/- EvalPure: true, of any two expressions that memory bears; the contract that its row asks. -/
import Derived.Test.YtijgifinhbbmaaaGreatDoorRd
import Derived.Test.YtijgifinhbbmaaaGreatDoorQ126
set_option linter.unusedVariables false
set_option linter.unusedSimpArgs false
namespace Go.Proofs.YtijgifinhbbmaaaGreatDoor
open Go.RowKit Go.Proofs.YtijgifinhbbmaaaGreatDoorW.PrintWords Go.Proofs.YtijgifinhbbmaaaGreatDoor.Q

theorem evalT_fits {x : Ex} (hx : AllS x) : 0 ≤ (evalT x).2.1 ∧ (evalT x).2.1 ≤ 1000 ∧ (evalT x).1.size ≤ 256 := by
  unfold evalT
  split
  · next hg =>
    have h := mean_fits (shape_of_good hx hg) [] 0
    cases hm : mean x [] 0 with
    | fail e t =>
      rw [hm] at h
      exact ⟨h.1, h.2.1 (by decide), Nat.zero_le _⟩
    | ok s t =>
      rw [hm] at h
      exact ⟨Int.le_of_lt h.1, h.2.1 (by decide), h.2.2⟩
  · exact ⟨by decide, by decide, by decide⟩
theorem pure_f {x y : Ex} (hx : WS x) (hy : WS y) : ∃ k, saplinglaw13_EvalPure.f k x.f0 x.f1 x.f2 y.f0 y.f1 y.f2 = some true := by
  have hj : ∀ b : Bool, (b = false → AllS x ∧ AllS y) → Ev (fun n => saplinglaw13_EvalPure.j0 n b x.f0 x.f1 x.f2 y.f0 y.f1 y.f2) true := by
    intro b hb
    refine Ev.step (f := fun _ => some true) (fun n => ?_) (Ev.now _)
    cases b
    · obtain ⟨h1, h2⟩ := hb rfl
      have h3 := evalT_fits h1
      simp only [saplinglaw13_EvalPure.j0]
      rw [if_neg (by decide), eval_f h1, eval_f h2]
      simp only [Option.bind_some]
      simp [h3.1, h3.2.1]; have := h3.2.2; omega
    · simp [saplinglaw13_EvalPure.j0]
  have hw1 := ev_w hx 8192 0 (by decide) (by decide) (by decide) (by decide)
  have hw2 := ev_w hy 8192 0 (by decide) (by decide) (by decide) (by decide)
  have h : Ev (fun n => saplinglaw13_EvalPure.f n x.f0 x.f1 x.f2 y.f0 y.f1 y.f2) true := by
    show Ev (fun n => (saplinglaw13_weighs.f n x.f0 x.f1 x.f2 8192 0).bind fun t291 => (if t291 < 0 then (saplinglaw13_EvalPure.j0 n true x.f0 x.f1 x.f2 y.f0 y.f1 y.f2) else ((saplinglaw13_weighs.f n y.f0 y.f1 y.f2 8192 0).bind fun t292 => (saplinglaw13_EvalPure.j0 n (decide (t292 < 0)) x.f0 x.f1 x.f2 y.f0 y.f1 y.f2)))) true
    refine Ev.bind hw1 ?_
    by_cases h1 : wv x 8192 0 < 0
    · simp only [if_pos h1]; exact hj true (fun h => by cases h)
    · simp only [if_neg h1]
      refine Ev.bind hw2 ?_
      refine hj _ fun h2 => ?_
      have h2' : ¬ wv y 8192 0 < 0 := of_decide_eq_false h2
      exact ⟨allS_of_wv hx 8192 0 (by decide) (by decide) (by omega), allS_of_wv hy 8192 0 (by decide) (by decide) (by omega)⟩
  exact h.rounds
end Go.Proofs.YtijgifinhbbmaaaGreatDoor
namespace Go.Proofs.YtijgifinhbbmaaaGreatDoor.evalPure
open Go.ChangeShapes Go.WideShapes Go.ChangeAt Go.RowKit Go.Proofs.YtijgifinhbbmaaaGreatDoor Go.Proofs.YtijgifinhbbmaaaGreatDoor.Q
set_option maxRecDepth 100000 in
theorem contract (H : Type) (enc : TypeId × Value → H) (W : World) (base : Nat) (args : Array Value) (ds gs : List (DataW H)) (before : List MemPlace)
    (hval : ∀ (j : Nat) t v, Tryz.f14.params[j]? = some t → args[j]? = some v → Value.okWide Tryz.prog W .any base t v)
    (hW : DataW.Whole enc Tryz.prog Tryz.f14.params.toList Rows.evalPureSpec.vars false W args.toList ds gs before)
    (hwt : (DataW.weightsEach Tryz.prog (Tryz.f14.params.toList ++ (OpenSpec.ofChange Rows.evalPureSpec).bare.plain.varTypes Tryz.prog) (ds ++ gs)).all (· ≤ reachBytes) = true) (hS : W.ShapedOpen Tryz.prog) :
    Calls Tryz.prog 14 args W fun e W' => ∃ v, e = .returned v ∧ Rows.evalPureSpec.post enc Tryz.prog Tryz.f14 false true false false W args v W' := by
  have hW' := hW
  obtain ⟨p, q, hA0, hV, rfl, hfz, hnd⟩ := hW
  have hA : DataW.TrodAll enc Tryz.prog W 0 (fun _ => true) true Tryz.f14.params.toList args.toList ds p := hA0
  rw [Tryz.params14] at hA hval hwt
  obtain ⟨v0, vs0, d0, ds0, p0, q0, hargs, rfl, rfl, h0, r0⟩ := trodAll_cons hA
  obtain ⟨v1, vs1, d1, ds1, p1, q1, rfl, rfl, rfl, h1, r1⟩ := trodAll_cons r0
  obtain ⟨rfl, rfl, rfl⟩ := trodAll_nil r1
  obtain rfl : args = #[v0, v1] := by cases args; simp_all
  obtain ⟨rfl, rfl⟩ := trodVars_none hV
  have hlt := hW'.lt
  have hw0 : ∀ k ∈ d0.weights Tryz.prog 84, k ≤ reachBytes := fun k hk => of_decide_eq_true (List.all_eq_true.1 hwt k (DataW.weights_mem_each (j := 0) rfl rfl k hk))
  have hw1 : ∀ k ∈ d1.weights Tryz.prog 84, k ≤ reachBytes := fun k hk => of_decide_eq_true (List.all_eq_true.1 hwt k (DataW.weights_mem_each (j := 1) rfl rfl k hk))
  obtain ⟨x, A, c, rfl, hx1, hx2, hx3⟩ := arg_ex (hval 0 84 v0 rfl rfl) h0 hw0
  obtain ⟨y, B, d, rfl, hy1, hy2, hy3⟩ := arg_ex (hval 1 84 v1 rfl rfl) h1 hw1
  obtain ⟨k, hk⟩ := pure_f hx3 hy3
  refine (saplinglaw13_EvalPure.calls k x.f0 x.f1 A c x.f2 y.f0 y.f1 B d y.f2 true W hx2 hx1 hy2 hy1 (has5 hS) hk).mono fun e W' ⟨he, hb⟩ => ?_
  subst he
  have rd : Tryz.prog.readableRec 84 = true := by kernel_rfl
  refine ⟨_, rfl, _, _, _, [], p0 ++ (p1 ++ []), [], hW', trodAll_cons_mk (shut_bool Tryz.underlying4 _) trodAll_mk0, ?_, rfl, ?_, fun h => by cases h⟩
  · refine trodAll_cons_mk (Below.trod laidOut rd (of_decide_eq_true (by kernel_rfl)) h0 hb fun z hz => hlt z (by simp [hz])) (trodAll_cons_mk (Below.trod laidOut rd (of_decide_eq_true (by kernel_rfl)) h1 hb fun z hz => hlt z (by simp [hz])) trodAll_mk0)
  · exact hb.frame _
end Go.Proofs.YtijgifinhbbmaaaGreatDoor.evalPure
