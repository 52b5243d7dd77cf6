import Derived.Test.YtijgifinhbbmaaaGreatDoorProg
import Derived.Test.YtijgifinhbbmaaaGreatDoorK0
namespace Go.Proofs.YtijgifinhbbmaaaGreatDoor
open Go.RowKit
def vgood (a b c : Int) : Bool := decide (0 ≤ a ∧ a ≤ 999 ∧ 0 ≤ b ∧ b ≤ 999 ∧ 0 ≤ c ∧ c ≤ 999)
theorem vgood_yes {a b c : Int} (h : 0 ≤ a ∧ a ≤ 999 ∧ 0 ≤ b ∧ b ≤ 999 ∧ 0 ≤ c ∧ c ≤ 999) : vgood a b c = true := decide_eq_true h
theorem vgood_no {a b c : Int} (h : ¬ (0 ≤ a ∧ a ≤ 999 ∧ 0 ≤ b ∧ b ≤ 999 ∧ 0 ≤ c ∧ c ≤ 999)) : vgood a b c = false := decide_eq_false h
theorem vgood_un {a b c : Int} (h : vgood a b c = true) : 0 ≤ a ∧ a ≤ 999 ∧ 0 ≤ b ∧ b ≤ 999 ∧ 0 ≤ c ∧ c ≤ 999 := of_decide_eq_true h
theorem vgood_iff {x : Bool} {a b c : Int} (h : x = true ↔ (0 ≤ a ∧ a ≤ 999 ∧ 0 ≤ b ∧ b ≤ 999 ∧ 0 ≤ c ∧ c ≤ 999)) : x = vgood a b c := by
  rw [Bool.eq_iff_iff, h]; exact (decide_eq_true_iff).symm
def vnum (a b c : Int) : Int := if vgood a b c then (a * 1000 + b) * 1000 + c else -1
set_option maxHeartbeats 400000 in
theorem vGood_calls (a b c : Int) (w : World) : Calls Tryz.prog 107 #[.agg #[.int .i64 a, .int .i64 b, .int .i64 c]] w fun e w' => e = .returned (.bool (vgood a b c)) ∧ Below w.heap.size w w' := by
  go_enter Tryz.func107, Tryz.ntmps107
  go_wp2
  refine wp_loop_rounds 4 ?_
  rw [rounds_succ]
  have i0 : ∀ w, (Instr.index 34 (.agg #[.int .i64 a, .int .i64 b, .int .i64 c]) (.int .i64 0)).run Tryz.prog w = .ok (.int .i64 a) w := fun _ => by kernel_rfl
  have i1 : ∀ w, (Instr.index 34 (.agg #[.int .i64 a, .int .i64 b, .int .i64 c]) (.int .i64 1)).run Tryz.prog w = .ok (.int .i64 b) w := fun _ => by kernel_rfl
  have i2 : ∀ w, (Instr.index 34 (.agg #[.int .i64 a, .int .i64 b, .int .i64 c]) (.int .i64 2)).run Tryz.prog w = .ok (.int .i64 c) w := fun _ => by kernel_rfl
  go_wp2
  iterate 3 (all_goals try rw [rounds_succ]; all_goals go_wp2)
  all_goals go_ret
  all_goals refine ⟨ret_bool ?_, below1 _ _⟩
  all_goals first | (refine (vgood_no ?_).symm; omega) | (refine (vgood_yes ?_).symm; omega) | (refine vgood_iff ?_; simp; omega)
set_option maxHeartbeats 400000 in
theorem rVerGood_calls (a b c : Int) (w : World) : Calls Tryz.prog 64 #[.agg #[.int .i64 a, .int .i64 b, .int .i64 c]] w fun e w' => e = .returned (.bool (vgood a b c)) ∧ Below w.heap.size w w' := by
  go_enter Tryz.func64, Tryz.ntmps64
  go_wp2
  all_goals go_ret
  all_goals refine ⟨ret_bool ?_, below1 _ _⟩
  all_goals first | (refine (vgood_no ?_).symm; omega) | (refine (vgood_yes ?_).symm; omega) | (refine vgood_iff ?_; simp; omega)
set_option maxHeartbeats 400000 in
theorem vNumber_calls (a b c : Int) (w : World) : Calls Tryz.prog 61 #[.agg #[.int .i64 a, .int .i64 b, .int .i64 c]] w fun e w' => e = .returned (.int .i64 (vnum a b c)) ∧ Below w.heap.size w w' := by
  cases hg : vgood a b c
  · go_enter Tryz.func61, Tryz.ntmps61
    go_wp2_with (go_at_call 107; refine (vGood_calls _ _ _ _).mono ?_; rintro e w' ⟨rfl, hb⟩; obtain ⟨hc, hf⟩ := bcell hb)
    go_ret
    exact ⟨ret_int (by simp [vnum, hg]), (below1 _ _).trans (hb.mono (by simp))⟩
  · obtain ⟨h1, h2, h3, h4, h5, h6⟩ := vgood_un hg
    go_enter Tryz.func61, Tryz.ntmps61
    go_wp2_with (go_at_call 107; refine (vGood_calls _ _ _ _).mono ?_; rintro e w' ⟨rfl, hb⟩; obtain ⟨hc, hf⟩ := bcell hb)
    go_ret
    exact ⟨ret_int (by simp [vnum, hg]), (below1 _ _).trans (hb.mono (by simp))⟩
set_option maxHeartbeats 400000 in
theorem rVerNumber_calls (a b c : Int) (w : World) : Calls Tryz.prog 65 #[.agg #[.int .i64 a, .int .i64 b, .int .i64 c]] w fun e w' => e = .returned (.int .i64 (vnum a b c)) ∧ Below w.heap.size w w' := by
  cases hg : vgood a b c
  · go_enter Tryz.func65, Tryz.ntmps65
    go_wp2_with (go_at_call 64; refine (rVerGood_calls _ _ _ _).mono ?_; rintro e w' ⟨rfl, hb⟩; obtain ⟨hc, hf⟩ := bcell hb)
    go_ret
    exact ⟨ret_int (by simp [vnum, hg]), (below1 _ _).trans (hb.mono (by simp))⟩
  · obtain ⟨h1, h2, h3, h4, h5, h6⟩ := vgood_un hg
    go_enter Tryz.func65, Tryz.ntmps65
    go_wp2_with (go_at_call 64; refine (rVerGood_calls _ _ _ _).mono ?_; rintro e w' ⟨rfl, hb⟩; obtain ⟨hc, hf⟩ := bcell hb)
    go_ret
    exact ⟨ret_int (by simp [vnum, hg]; omega), (below1 _ _).trans (hb.mono (by simp))⟩
end Go.Proofs.YtijgifinhbbmaaaGreatDoor
