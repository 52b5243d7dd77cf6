/- recipe.Name: what it answers, of any text. -/
import Derived.Test.YtijgifinhbbmaaaGreatDoorK0
import Derived.Test.YtijgifinhbbmaaaGreatDoorSh
import Derived.Laws.EntriesVeiled
import Derived.Test.YtijgifinhbbmaaaGreatDoorQ5
import Derived.Test.YtijgifinhbbmaaaGreatDoorQ5
set_option linter.unusedVariables false
set_option linter.unusedSimpArgs false
namespace Go.Proofs.YtijgifinhbbmaaaGreatDoor
open Go.RowKit Go.Shelf Go.Proofs.YtijgifinhbbmaaaGreatDoorW.PrintWords Go.Proofs.YtijgifinhbbmaaaGreatDoor.Q
def letterB (c : Int) : Bool := decide ((97 ≤ c ∧ c ≤ 122) ∨ (48 ≤ c ∧ c ≤ 57) ∨ c = 95)
theorem letterB_iff {x : Bool} {c : Int} (h : x = true ↔ ((97 ≤ c ∧ c ≤ 122) ∨ (48 ≤ c ∧ c ≤ 57) ∨ c = 95)) : x = letterB c := by
  rw [Bool.eq_iff_iff, h]; exact (decide_eq_true_iff).symm
theorem part_calls (c : Int) (w : World) : Calls Tryz.prog 184 #[.int .i32 c] w fun e w' => e = .returned (.bool (letterB c)) ∧ w = w' := by
  go_enter Tryz.func184, Tryz.ntmps184
  go_wp2
  all_goals go_ret
  all_goals refine ⟨ret_bool (letterB_iff ?_), rfl⟩
  all_goals (simp; try omega)
theorem notpart (w : World) (B : Nat) (hB : B < w.heap.size) (hc : w.cell? ⟨B, 0, none⟩ = some (.func (.func 184) #[] #[])) :
    PredAt Tryz.prog 185 #[.pointer (some ⟨B, 0, none⟩)] encR (fun r => !letterB r) w := fun W r hb => by
  have hc' : W.cell? ⟨B, 0, none⟩ = some (.func (.func 184) #[] #[]) := (hb.cell (p := ⟨B, 0, none⟩) hB).trans hc
  unfold FnGives
  go_enter Tryz.func185, Tryz.ntmps185
  go_wp2_with (go_at_call 184; refine (part_calls _ _).mono ?_; rintro e w' ⟨rfl, rfl⟩)
  go_ret
  exact ⟨rfl, 0, rfl⟩
def kwl : List ByteArray := (recipe_keywords.f).getD []
theorem kwl_eq : recipe_keywords.f = some kwl := rfl
/-- A byte that is none of a name's stands in it. -/
def badRune (s : ByteArray) : Bool := decide (0 ≤ Lib.idxFunc (fun r => !letterB (r : Int)) true s)
def isKw (s : ByteArray) : Bool := kwl.any fun x => decide (s.toList = x.toList)
def isName (s : ByteArray) : Bool := decide (1 ≤ s.size ∧ s.size ≤ 32 ∧ 97 ≤ bt s 0 ∧ bt s 0 ≤ 122) && !badRune s && !isKw s
theorem index_l0 (l : List ByteArray) (s : ByteArray) (hl : l.length ≤ 1000) (d : Nat) : ∀ (k : Nat) (i : Int), 0 ≤ i → i ≤ l.length → (l.length : Int) - i = d → d < k →
    ∃ r, slices_Index_string_string.l0 k l s (l.length : Int) i = some r ∧ (0 ≤ r ↔ ∃ j : Nat, i ≤ j ∧ ∃ x, l[j]? = some x ∧ s.toList = x.toList) := by
  induction d with
  | zero =>
    intro k i h0 h1 hd hk
    obtain ⟨k, rfl⟩ : ∃ m, k = m + 1 := ⟨k - 1, by omega⟩
    refine ⟨-1, by simp only [slices_Index_string_string.l0]; rw [if_neg (by omega)], ⟨fun h => by omega, fun ⟨j, hj, x, hx, _⟩ => ?_⟩⟩
    have := (List.getElem?_eq_some_iff.1 hx).1
    omega
  | succ d ih =>
    intro k i h0 h1 hd hk
    obtain ⟨k, rfl⟩ : ∃ m, k = m + 1 := ⟨k - 1, by omega⟩
    have hlt : i < (l.length : Int) := by omega
    have hn : i.toNat < l.length := by omega
    have hrd : rdOf ByteArray.empty l i = l[i.toNat] := by simp [rdOf, List.getD_eq_getElem?_getD, List.getElem?_eq_getElem hn]
    by_cases he : s.toList = (l[i.toNat]).toList
    · refine ⟨i, by simp only [slices_Index_string_string.l0]; rw [if_pos hlt, if_pos h0, if_pos hlt, hrd, if_pos he], ⟨fun _ => ⟨i.toNat, by omega, _, List.getElem?_eq_getElem hn, he⟩, fun _ => h0⟩⟩
    · obtain ⟨r, hr, hiff⟩ := ih k (i + 1) (by omega) (by omega) (by omega) (by omega)
      have hiff2 : (0 ≤ r ↔ ∃ j : Nat, i ≤ j ∧ ∃ x, l[j]? = some x ∧ s.toList = x.toList) := by
        refine hiff.trans ⟨?_, ?_⟩
        · rintro ⟨j, hj, x, hx, hs⟩; exact ⟨j, Int.le_trans (Int.le_add_one (Int.le_refl i)) hj, x, hx, hs⟩
        rintro ⟨j, hj, x, hx, hs⟩
        refine ⟨j, ?_, x, hx, hs⟩
        rcases Int.lt_or_le i (j : Int) with h | h
        · exact h
        · have hji : (j : Int) = i := Int.le_antisymm h hj
          have : j = i.toNat := by rw [← hji]; rfl
          subst this
          rw [List.getElem?_eq_getElem hn] at hx
          cases hx
          exact absurd hs he
      have hw : wrap64 (i + 1) = i + 1 := by unfold wrap64; omega
      exact ⟨r, by simp only [slices_Index_string_string.l0]; rw [if_pos hlt, if_pos h0, if_pos hlt, hrd, if_neg he, hw]; exact hr, hiff2⟩
theorem contains_kw (s : ByteArray) : slices_Contains_string_string.f 12 kwl s = some (isKw s) := by
  obtain ⟨r, hr, hiff⟩ := index_l0 kwl s (by decide) 10 12 0 (by omega) (by decide) (by decide) (by omega)
  unfold slices_Contains_string_string.f slices_Index_string_string.f
  rw [hr]
  simp only [Option.bind_some, Option.some.injEq]
  rw [Bool.eq_iff_iff]
  simp only [decide_eq_true_eq, isKw, List.any_eq_true]
  rw [ge_iff_le, hiff]
  constructor
  · rintro ⟨j, _, x, hx, hs⟩; exact ⟨x, List.mem_of_getElem? hx, by simpa using hs⟩
  · rintro ⟨x, hx, hs⟩
    obtain ⟨j, hj⟩ := List.mem_iff_getElem?.1 hx
    exact ⟨j, by omega, x, hj, by simpa using hs⟩
def recipe_Name.f (a0 : ByteArray) : Option Bool := some (isName a0)
set_option maxHeartbeats 1000000 in
theorem name_empty (w : World) : Calls Tryz.prog 145 #[.string ⟨#[]⟩] w fun e w' => e = .returned (.bool false) ∧ Below w.heap.size w w' := by
  go_enter Tryz.func145, Tryz.ntmps145
  go_wp2
  go_ret
  exact ⟨rfl, below1 _ _⟩
theorem toList_pos {s : ByteArray} (h : 0 < s.size) : (s.toList == []) = false := by
  rw [beq_eq_false_iff_ne]
  intro e
  have := congrArg List.length e
  rw [Lib.toList_data, Array.length_toList] at this
  have t0 : s.size = 0 := this
  omega
set_option maxHeartbeats 1000000 in
theorem name_long (s : ByteArray) (w : World) (h : 32 < s.size) : Calls Tryz.prog 145 #[.string s] w fun e w' => e = .returned (.bool false) ∧ Below w.heap.size w w' := by
  have h1 : ¬ (s.size : Int) ≤ 32 := by omega
  have h2 := toList_pos (show 0 < s.size by omega)
  go_enter Tryz.func145, Tryz.ntmps145
  go_wp2
  go_ret
  exact ⟨rfl, below1 _ _⟩
set_option maxHeartbeats 1000000 in
theorem name_low (s : ByteArray) (w : World) (h0 : 0 < s.size) (h : s.size ≤ 32) (hb : bt s 0 < 97) : Calls Tryz.prog 145 #[.string s] w fun e w' => e = .returned (.bool false) ∧ Below w.heap.size w w' := by
  have h1 : (s.size : Int) ≤ 32 := by omega
  have h2 := toList_pos h0
  have h3 : ((s[0]'h0).toNat : Int) = bt s 0 := bt_at s 0 h0
  go_enter Tryz.func145, Tryz.ntmps145
  go_wp2
  go_ret
  exact ⟨rfl, below1 _ _⟩
set_option maxHeartbeats 1000000 in
theorem name_high (s : ByteArray) (w : World) (h0 : 0 < s.size) (h : s.size ≤ 32) (hb : 122 < bt s 0) : Calls Tryz.prog 145 #[.string s] w fun e w' => e = .returned (.bool false) ∧ Below w.heap.size w w' := by
  have h1 : (s.size : Int) ≤ 32 := by omega
  have h2 := toList_pos h0
  have h3 : ((s[0]'h0).toNat : Int) = bt s 0 := bt_at s 0 h0
  go_enter Tryz.func145, Tryz.ntmps145
  go_wp2
  go_ret
  exact ⟨rfl, below1 _ _⟩
set_option maxHeartbeats 2000000 in
theorem name_mid (s : ByteArray) (w : World) (h0 : 0 < s.size) (h : s.size ≤ 32) (hb0 : 97 ≤ bt s 0) (hb1 : bt s 0 ≤ 122) : Calls Tryz.prog 145 #[.string s] w fun e w' => e = .returned (.bool (!badRune s && !isKw s)) ∧ Below w.heap.size w w' := by
  have hC := fun (W : World) (hB : w.heap.size < W.heap.size) (hc : W.cell? ⟨w.heap.size, 0, none⟩ = some (.func (.func 184) #[] #[])) =>
    Any.strings_ContainsFunc Tryz.cf17 185 #[.pointer (some ⟨w.heap.size, 0, none⟩)] (enters_of Tryz.func185 (by kernel_rfl) rfl) _ s W (notpart W w.heap.size hB hc)
  change ∀ W _ _, Calls Tryz.prog 175 _ _ _ at hC
  have HC := Aside0.mk hC
  clear hC
  have h1 : (s.size : Int) ≤ 32 := by omega
  have h2 := toList_pos h0
  have h3 : ((s[0]'h0).toNat : Int) = bt s 0 := bt_at s 0 h0
  cases hbad : badRune s
  · have hbad' : decide (0 ≤ Lib.idxFunc (fun r => !letterB (r : Int)) true s) = false := hbad
    have HB := Aside0.mk hbad'
    clear hbad' hbad
    go_enter Tryz.func145, Tryz.ntmps145
    go_wp2_with (first | (go_at_call 175; refine (HC.out _ (by simp) (by simp)).mono ?_; rintro e w' ⟨rfl, hb⟩; rw [HB.out]) | (go_at_call 187; refine (recipe_keywords.calls kwl _ kwl_eq).mono ?_; rintro e w2 ⟨v0, rfl, hr, hbk⟩; obtain ⟨A0, c0, rfl, hcc, hrc⟩ := Kd.R_reads hr; clear hr) | (go_at_call 186; refine (slices_Contains_string_string.calls 12 _ _ kwl s (isKw s) _ hrc hcc (contains_kw s)).mono ?_; rintro e w3 ⟨rfl, hd⟩))
    go_ret
    exact ⟨rfl, (below1 _ _).trans (((hb.trans (hbk.mono hb.size)).trans (hd.below.mono (Nat.le_trans hb.size hbk.size))).mono (by simp))⟩
  · have hbad' : decide (0 ≤ Lib.idxFunc (fun r => !letterB (r : Int)) true s) = true := hbad
    have HB := Aside0.mk hbad'
    clear hbad' hbad
    go_enter Tryz.func145, Tryz.ntmps145
    go_wp2_with (first | (go_at_call 175; refine (HC.out _ (by simp) (by simp)).mono ?_; rintro e w' ⟨rfl, hb⟩; rw [HB.out]))
    go_ret
    exact ⟨rfl, (below1 _ _).trans (hb.mono (by simp))⟩
theorem recipe_Name.calls (a0 : ByteArray) (r : Bool) (w : World) (h : recipe_Name.f a0 = some r) : Calls Tryz.prog 145 #[.string a0] w fun e w' => e = .returned (.bool r) ∧ Below w.heap.size w w' := by
  obtain rfl := Option.some.inj h
  by_cases h0 : a0.size = 0
  · obtain rfl : a0 = ⟨#[]⟩ := by
      have : a0.data = #[] := Array.eq_empty_of_size_eq_zero h0
      cases a0; simp_all
    have e : isName ⟨#[]⟩ = false := by simp [isName, ByteArray.size]
    rw [e]; exact name_empty w
  by_cases h1 : 32 < a0.size
  · have e : isName a0 = false := by unfold isName; rw [decide_eq_false (by omega)]; rfl
    rw [e]; exact name_long a0 w h1
  by_cases h2 : bt a0 0 < 97
  · have e : isName a0 = false := by unfold isName; rw [decide_eq_false (by omega)]; rfl
    rw [e]; exact name_low a0 w (by omega) (by omega) h2
  by_cases h3 : 122 < bt a0 0
  · have e : isName a0 = false := by unfold isName; rw [decide_eq_false (by omega)]; rfl
    rw [e]; exact name_high a0 w (by omega) (by omega) h3
  have e : isName a0 = (!badRune a0 && !isKw a0) := by unfold isName; rw [decide_eq_true (by omega)]; rfl
  rw [e]; exact name_mid a0 w (by omega) (by omega) (by omega) (by omega)
end Go.Proofs.YtijgifinhbbmaaaGreatDoor
