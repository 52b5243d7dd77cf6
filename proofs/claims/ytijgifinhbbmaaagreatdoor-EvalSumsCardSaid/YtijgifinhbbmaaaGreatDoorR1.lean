/- eval.unless, eval.text, path.Name, eval.name. -/
import Derived.Test.YtijgifinhbbmaaaGreatDoorXE
import Derived.Recover
import Derived.Laws.EntriesVeiled
set_option linter.unusedVariables false
set_option linter.unusedSimpArgs false
namespace Go.Proofs.YtijgifinhbbmaaaGreatDoor
open Go.RowKit Go.Shelf Go.Proofs.YtijgifinhbbmaaaGreatDoorW.PrintWords Go.Proofs.YtijgifinhbbmaaaGreatDoor.Q
def stopV (e : Int) : Value := .iface 161 (.agg #[.int .i64 e])
def stopE (e : Int) : Ending := .panicked [{ v := stopV e, recovered := false }]
theorem unless_ok (e : Int) (w : World) : Calls Tryz.prog 86 #[.bool true, .int .i64 e] w fun x w' => x = .returned (.tuple #[]) ∧ w = w' := by
  go_enter Tryz.func86, Tryz.ntmps86
  go_wp2
  go_end0
  exact ⟨rfl, rfl⟩
theorem unless_no (e : Int) (w : World) : Calls Tryz.prog 86 #[.bool false, .int .i64 e] w fun x w' => x = stopE e ∧ w = w' := by
  go_enter Tryz.func86, Tryz.ntmps86
  go_wp2
  exact ⟨rfl, rfl, rfl⟩
set_option maxHeartbeats 1000000 in
theorem text_ok (x : Ex) (A : Option Addr) (c : Nat) (s : ByteArray) (n : Int) (w : World) (hr : Kd.C kEx w A x.f2.length x.f2) (hc : x.f2.length ≤ c) (h : eval_Eval.f x.f0 x.f1 x.f2 = some (s, n, 0)) :
    Calls Tryz.prog 89 #[.agg #[.int .i64 x.f0, .string x.f1, .slice A x.f2.length c]] w fun e w' => e = .returned (.string s) ∧ Below w.heap.size w w' := by
  have HR := Aside0.mk hr
  have HC := Aside0.mk hc
  have HH := Aside0.mk h
  clear hr hc h
  go_enter Tryz.func89, Tryz.ntmps89
  go_wp2_with (first | (go_at_call 43; refine (eval_Eval.calls x.f0 x.f1 A c x.f2 s n 0 _ (Kd.C_alloc HR.out _) HC.out HH.out).mono ?_; rintro e w1 ⟨rfl, hb⟩; have HB := Aside0.mk ((below1 _ _).trans (hb.mono (by simp))); clear hb) | (go_at_call 86; refine (unless_ok _ _).mono ?_; rintro e w2 ⟨rfl, rfl⟩))
  go_ret
  exact ⟨rfl, HB.out⟩
/-! ### path.Name -/
def pletter (c : Int) : Bool := decide ((97 ≤ c ∧ c ≤ 122) ∨ (48 ≤ c ∧ c ≤ 57) ∨ c = 45 ∨ c = 95 ∨ c = 46)
theorem pletter_iff {x : Bool} {c : Int} (h : x = true ↔ ((97 ≤ c ∧ c ≤ 122) ∨ (48 ≤ c ∧ c ≤ 57) ∨ c = 45 ∨ c = 95 ∨ c = 46)) : x = pletter c := by
  rw [Bool.eq_iff_iff, h]; exact (decide_eq_true_iff).symm
theorem ppart_calls (c : Int) (w : World) : Calls Tryz.prog 174 #[.int .i32 c] w fun e w' => e = .returned (.bool (pletter c)) ∧ w = w' := by
  go_enter Tryz.func174, Tryz.ntmps174
  go_wp2
  all_goals go_ret
  all_goals refine ⟨ret_bool (pletter_iff ?_), rfl⟩
  all_goals (simp; try omega)
theorem pnotpart (w : World) (B : Nat) (hB : B < w.heap.size) (hc : w.cell? ⟨B, 0, none⟩ = some (.func (.func 174) #[] #[])) :
    PredAt Tryz.prog 176 #[.pointer (some ⟨B, 0, none⟩)] encR (fun r => !pletter r) w := fun W r hb => by
  have hc' : W.cell? ⟨B, 0, none⟩ = some (.func (.func 174) #[] #[]) := (hb.cell (p := ⟨B, 0, none⟩) hB).trans hc
  unfold FnGives
  go_enter Tryz.func176, Tryz.ntmps176
  go_wp2_with (go_at_call 174; refine (ppart_calls _ _).mono ?_; rintro e w' ⟨rfl, rfl⟩)
  go_ret
  exact ⟨rfl, 0, rfl⟩
def pbadRune (s : ByteArray) : Bool := decide (0 ≤ Lib.idxFunc (fun r => !pletter (r : Int)) true s)
def isPath (s : ByteArray) : Bool := decide (1 ≤ s.size ∧ s.size ≤ 32 ∧ bt s 0 ≠ 46) && !pbadRune s
set_option maxHeartbeats 1000000 in
theorem pname_empty (w : World) : Calls Tryz.prog 135 #[.string ⟨#[]⟩] w fun e w' => e = .returned (.bool false) ∧ Below w.heap.size w w' := by
  go_enter Tryz.func135, Tryz.ntmps135
  go_wp2
  go_ret
  exact ⟨rfl, below1 _ _⟩
set_option maxHeartbeats 1000000 in
theorem pname_long (s : ByteArray) (w : World) (h : 32 < s.size) : Calls Tryz.prog 135 #[.string s] w fun e w' => e = .returned (.bool false) ∧ Below w.heap.size w w' := by
  have h1 : ¬ (s.size : Int) ≤ 32 := by omega
  have h2 := toList_pos (show 0 < s.size by omega)
  go_enter Tryz.func135, Tryz.ntmps135
  go_wp2
  go_ret
  exact ⟨rfl, below1 _ _⟩
set_option maxHeartbeats 1000000 in
theorem pname_dot (s : ByteArray) (w : World) (h0 : 0 < s.size) (h : s.size ≤ 32) (hb : bt s 0 = 46) : Calls Tryz.prog 135 #[.string s] w fun e w' => e = .returned (.bool false) ∧ Below w.heap.size w w' := by
  have h1 : (s.size : Int) ≤ 32 := by omega
  have h2 := toList_pos h0
  have h3 : ((s[0]'h0).toNat : Int) = 46 := (bt_at s 0 h0).trans hb
  clear hb
  go_enter Tryz.func135, Tryz.ntmps135
  go_wp2
  go_ret
  exact ⟨rfl, below1 _ _⟩
set_option maxHeartbeats 2000000 in
theorem pname_mid (s : ByteArray) (w : World) (h0 : 0 < s.size) (h : s.size ≤ 32) (hb0 : bt s 0 ≠ 46) : Calls Tryz.prog 135 #[.string s] w fun e w' => e = .returned (.bool (!pbadRune s)) ∧ Below w.heap.size w w' := by
  have hC := fun (W : World) (hB : w.heap.size < W.heap.size) (hc : W.cell? ⟨w.heap.size, 0, none⟩ = some (.func (.func 174) #[] #[])) =>
    Any.strings_ContainsFunc Tryz.cf17 176 #[.pointer (some ⟨w.heap.size, 0, none⟩)] (enters_of Tryz.func176 (by kernel_rfl) rfl) _ s W (pnotpart W w.heap.size hB hc)
  change ∀ W _ _, Calls Tryz.prog 175 _ _ _ at hC
  have HC := Aside0.mk hC
  clear hC
  have h1 : (s.size : Int) ≤ 32 := by omega
  have h2 := toList_pos h0
  have h3 : ((s[0]'h0).toNat : Int) = bt s 0 := bt_at s 0 h0
  have h4 : (bt s 0 == 46) = false := by simpa using hb0
  have h5 : ¬ bt s 0 = 46 := hb0
  clear hb0
  have HB := Aside0.mk (show pbadRune s = decide (0 ≤ Lib.idxFunc (fun r => !pletter (r : Int)) true s) from rfl)
  go_enter Tryz.func135, Tryz.ntmps135
  go_wp2_with (first | (go_at_call 175; refine (HC.out _ (by simp) (by simp)).mono ?_; rintro e w' ⟨rfl, hb⟩; rw [← HB.out]))
  go_ret
  exact ⟨ret_bool (by simp [h5]), (below1 _ _).trans (hb.mono (by simp))⟩
theorem pname_calls (s : ByteArray) (w : World) : Calls Tryz.prog 135 #[.string s] w fun e w' => e = .returned (.bool (isPath s)) ∧ Below w.heap.size w w' := by
  by_cases h0 : s.size = 0
  · obtain rfl : s = ⟨#[]⟩ := by
      have : s.data = #[] := Array.eq_empty_of_size_eq_zero h0
      cases s; simp_all
    have e : isPath ⟨#[]⟩ = false := by simp [isPath, ByteArray.size]
    rw [e]; exact pname_empty w
  by_cases h1 : 32 < s.size
  · have e : isPath s = false := by unfold isPath; rw [decide_eq_false (by omega)]; rfl
    rw [e]; exact pname_long s w h1
  by_cases h2 : bt s 0 = 46
  · have e : isPath s = false := by unfold isPath; rw [decide_eq_false (by omega)]; rfl
    rw [e]; exact pname_dot s w (by omega) (by omega) h2
  have e : isPath s = !pbadRune s := by unfold isPath; rw [decide_eq_true (by omega)]; rfl
  rw [e]; exact pname_mid s w (by omega) (by omega) h2
set_option maxHeartbeats 1000000 in
theorem name_ok (x : Ex) (A : Option Addr) (c : Nat) (s : ByteArray) (n : Int) (w : World) (hr : Kd.C kEx w A x.f2.length x.f2) (hc : x.f2.length ≤ c) (h : eval_Eval.f x.f0 x.f1 x.f2 = some (s, n, 0)) (hp : isPath s = true) :
    Calls Tryz.prog 87 #[.agg #[.int .i64 x.f0, .string x.f1, .slice A x.f2.length c]] w fun e w' => e = .returned (.string s) ∧ Below w.heap.size w w' := by
  have HR := Aside0.mk hr
  have HC := Aside0.mk hc
  have HH := Aside0.mk h
  have HP := Aside0.mk hp
  clear hr hc h hp
  go_enter Tryz.func87, Tryz.ntmps87
  go_wp2_with (first | (go_at_call 89; refine (text_ok x A c s n _ (Kd.C_alloc HR.out _) HC.out HH.out).mono ?_; rintro e w1 ⟨rfl, hb⟩; have HB := Aside0.mk ((below1 _ _).trans (hb.mono (by simp))); clear hb) | (go_at_call 135; refine (pname_calls _ _).mono ?_; rw [HP.out]; rintro e w2 ⟨rfl, hb⟩; have HB2 := Aside0.mk (HB.out.trans (hb.mono HB.out.size)); clear hb) | (go_at_call 86; refine (unless_ok _ _).mono ?_; rintro e w2 ⟨rfl, rfl⟩))
  go_ret
  exact ⟨rfl, HB2.out⟩
end Go.Proofs.YtijgifinhbbmaaaGreatDoor
