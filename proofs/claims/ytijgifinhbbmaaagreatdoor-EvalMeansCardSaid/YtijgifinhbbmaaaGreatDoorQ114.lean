-- Written by wip/xprint.py: the machine's side of a function, by program.
import Derived.Test.YtijgifinhbbmaaaGreatDoorQ0
namespace Go.Proofs.YtijgifinhbbmaaaGreatDoor.Q
open Go.RowKit Go.Proofs.YtijgifinhbbmaaaGreatDoorW.PrintWords Go.Proofs.YtijgifinhbbmaaaGreatDoorW.PrintLast Go.Proofs.YtijgifinhbbmaaaGreatDoorW.PrintMore
attribute [local go_sem] max2_int min2_int max_two min_two max_three min_three max_four min_four   -- for this text's walks alone
set_option linter.unusedVariables false
set_option linter.unusedSimpArgs false

/-! ### saplingref12_letter: function 230 -/
def saplingref12_letter.f (a0 : Int) : Option (Bool) := if a0 ≥ 97 then (if a0 ≤ 122 then (some true) else (if a0 ≥ 48 then (if a0 ≤ 57 then (some true) else (some (a0 == 95))) else (some (a0 == 95)))) else (if a0 ≥ 48 then (if a0 ≤ 57 then (some true) else (some (a0 == 95))) else (some (a0 == 95)))
set_option maxHeartbeats 8000000 in
set_option maxRecDepth 100000 in
theorem saplingref12_letter.calls (a0 : Int) (r : Bool) (w : World) (h : saplingref12_letter.f a0 = some r) :
    Calls Tryz.prog 230 #[.int .u8 a0] w fun e w' => e = .returned (.bool r) ∧ Drawn0 w w' := by
  have H : (if a0 ≥ 97 then (if a0 ≤ 122 then (some true) else (if a0 ≥ 48 then (if a0 ≤ 57 then (some true) else (some (a0 == 95))) else (some (a0 == 95)))) else (if a0 ≥ 48 then (if a0 ≤ 57 then (some true) else (some (a0 == 95))) else (some (a0 == 95)))) = some r := h
  clear h
  by_cases c2 : a0 ≥ 97
  · rw [if_pos c2] at H
    have c2b0 : decide (97 ≤ a0) = true := decide_eq_true c2
    clear c2
    by_cases c3 : a0 ≤ 122
    · rw [if_pos c3] at H
      have c3b0 : decide (a0 ≤ 122) = true := decide_eq_true c3
      clear c3
      obtain rfl := Option.some.inj H
      go_enter Tryz.func230, Tryz.ntmps230
      go_wp2
      go_ret
      exact ⟨by first | rfl | (simp; done) | (simp [*]; done), by repeat (first | exact Drawn0.refl _ | apply Drawn0.step)⟩
    · rw [if_neg c3] at H
      have c3b0 : decide (a0 ≤ 122) = false := decide_eq_false c3
      clear c3
      by_cases c4 : a0 ≥ 48
      · rw [if_pos c4] at H
        have c4b0 : decide (48 ≤ a0) = true := decide_eq_true c4
        clear c4
        by_cases c5 : a0 ≤ 57
        · rw [if_pos c5] at H
          have c5b0 : decide (a0 ≤ 57) = true := decide_eq_true c5
          clear c5
          obtain rfl := Option.some.inj H
          go_enter Tryz.func230, Tryz.ntmps230
          go_wp2
          go_ret
          exact ⟨by first | rfl | (simp; done) | (simp [*]; done), by repeat (first | exact Drawn0.refl _ | apply Drawn0.step)⟩
        · rw [if_neg c5] at H
          have c5b0 : decide (a0 ≤ 57) = false := decide_eq_false c5
          clear c5
          obtain rfl := Option.some.inj H
          go_enter Tryz.func230, Tryz.ntmps230
          go_wp2
          go_ret
          exact ⟨by first | rfl | (simp; done) | (simp [*]; done), by repeat (first | exact Drawn0.refl _ | apply Drawn0.step)⟩
      · rw [if_neg c4] at H
        have c4b0 : decide (48 ≤ a0) = false := decide_eq_false c4
        clear c4
        obtain rfl := Option.some.inj H
        go_enter Tryz.func230, Tryz.ntmps230
        go_wp2
        go_ret
        exact ⟨by first | rfl | (simp; done) | (simp [*]; done), by repeat (first | exact Drawn0.refl _ | apply Drawn0.step)⟩
  · rw [if_neg c2] at H
    have c2b0 : decide (97 ≤ a0) = false := decide_eq_false c2
    clear c2
    by_cases c6 : a0 ≥ 48
    · rw [if_pos c6] at H
      have c6b0 : decide (48 ≤ a0) = true := decide_eq_true c6
      clear c6
      by_cases c7 : a0 ≤ 57
      · rw [if_pos c7] at H
        have c7b0 : decide (a0 ≤ 57) = true := decide_eq_true c7
        clear c7
        obtain rfl := Option.some.inj H
        go_enter Tryz.func230, Tryz.ntmps230
        go_wp2
        go_ret
        exact ⟨by first | rfl | (simp; done) | (simp [*]; done), by repeat (first | exact Drawn0.refl _ | apply Drawn0.step)⟩
      · rw [if_neg c7] at H
        have c7b0 : decide (a0 ≤ 57) = false := decide_eq_false c7
        clear c7
        obtain rfl := Option.some.inj H
        go_enter Tryz.func230, Tryz.ntmps230
        go_wp2
        go_ret
        exact ⟨by first | rfl | (simp; done) | (simp [*]; done), by repeat (first | exact Drawn0.refl _ | apply Drawn0.step)⟩
    · rw [if_neg c6] at H
      have c6b0 : decide (48 ≤ a0) = false := decide_eq_false c6
      clear c6
      obtain rfl := Option.some.inj H
      go_enter Tryz.func230, Tryz.ntmps230
      go_wp2
      go_ret
      exact ⟨by first | rfl | (simp; done) | (simp [*]; done), by repeat (first | exact Drawn0.refl _ | apply Drawn0.step)⟩

end Go.Proofs.YtijgifinhbbmaaaGreatDoor.Q
-- Written by wip/xprint.py: the machine's side of a function, by program.
namespace Go.Proofs.YtijgifinhbbmaaaGreatDoor.Q
open Go.RowKit Go.Proofs.YtijgifinhbbmaaaGreatDoorW.PrintWords Go.Proofs.YtijgifinhbbmaaaGreatDoorW.PrintLast Go.Proofs.YtijgifinhbbmaaaGreatDoorW.PrintMore
attribute [local go_sem] max2_int min2_int max_two min_two max_three min_three max_four min_four   -- for this text's walks alone
set_option linter.unusedVariables false
set_option linter.unusedSimpArgs false

/-! ### saplingref12_Keyword: function 231 -/
def saplingref12_Keyword.l0 : Nat → ByteArray → List ByteArray → Int → Int → Option (Bool)
  | 0, _, _, _, _ => none
  | k + 1, x0, x5, x6, x7 => if x7 < x6 then (if 0 ≤ x7 then (if x7 < (x5.length : Int) then (if x0.toList = (rdOf ByteArray.empty x5 x7).toList then (some true) else (saplingref12_Keyword.l0 k x0 x5 x6 (wrap64 (x7 + 1)))) else (none)) else (none)) else (some false)
def saplingref12_Keyword.f (k : Nat) (a0 : ByteArray) : Option (Bool) := (some (([(⟨#[112, 97, 99, 107, 97, 103, 101]⟩ : ByteArray), (⟨#[118, 101, 114, 115, 105, 111, 110]⟩ : ByteArray), (⟨#[116, 111, 111, 108]⟩ : ByteArray), (⟨#[98, 117, 105, 108, 100]⟩ : ByteArray), (⟨#[114, 117, 110]⟩ : ByteArray), (⟨#[108, 101, 116]⟩ : ByteArray), (⟨#[105, 110]⟩ : ByteArray), (⟨#[105, 102]⟩ : ByteArray), (⟨#[116, 104, 101, 110]⟩ : ByteArray), (⟨#[101, 108, 115, 101]⟩ : ByteArray)] : List ByteArray) : List ByteArray)).bind fun y164 => (saplingref12_Keyword.l0 k a0 y164 (y164.length : Int) 0)
theorem saplingref12_Keyword.mono_l : ∀ k, (∀ y0 y1 y2 y3, LeO (saplingref12_Keyword.l0 k y0 y1 y2 y3) (saplingref12_Keyword.l0 (k + 1) y0 y1 y2 y3))
  | 0 => fun _ _ _ _ r h => by simp [saplingref12_Keyword.l0] at h
  | k + 1 => by
    have ih0 := saplingref12_Keyword.mono_l k
    · intro y0 y1 y2 y3
      unfold saplingref12_Keyword.l0
      repeat' first
      | (with_reducible exact ih0 _ _ _ _)
      | (with_reducible exact LeO.refl _)
      | (with_reducible exact LeO.none _)
      | (with_reducible refine LeO.ite ?_ ?_)
      | (with_reducible refine LeO.bind ?_ (fun _ => ?_))
      | exact ih0 _ _ _ _
      | exact LeO.none _
      | refine LeO.ite ?_ ?_
      | refine LeO.bind ?_ (fun _ => ?_)
theorem saplingref12_Keyword.mono : ∀ a0 k, LeO (saplingref12_Keyword.f k a0) (saplingref12_Keyword.f (k + 1) a0) := by
  intro a0 k
  have ih0 := saplingref12_Keyword.mono_l k
  unfold saplingref12_Keyword.f
  repeat' first
      | (with_reducible exact ih0 _ _ _ _)
      | (with_reducible exact LeO.refl _)
      | (with_reducible exact LeO.none _)
      | (with_reducible refine LeO.ite ?_ ?_)
      | (with_reducible refine LeO.bind ?_ (fun _ => ?_))
      | exact ih0 _ _ _ _
      | exact LeO.none _
      | refine LeO.ite ?_ ?_
      | refine LeO.bind ?_ (fun _ => ?_)
set_option maxHeartbeats 8000000 in
set_option maxRecDepth 100000 in
theorem saplingref12_Keyword.calls (k : Nat) (a0 : ByteArray) (r : Bool) (w : World) (h : saplingref12_Keyword.f k a0 = some r) :
    Calls Tryz.prog 231 #[.string a0] w fun e w' => e = .returned (.bool r) ∧ Below w.heap.size w w' := by
  have HB := Aside0.mk (Below.refl w.heap.size w)
  have H : ((some (([(⟨#[112, 97, 99, 107, 97, 103, 101]⟩ : ByteArray), (⟨#[118, 101, 114, 115, 105, 111, 110]⟩ : ByteArray), (⟨#[116, 111, 111, 108]⟩ : ByteArray), (⟨#[98, 117, 105, 108, 100]⟩ : ByteArray), (⟨#[114, 117, 110]⟩ : ByteArray), (⟨#[108, 101, 116]⟩ : ByteArray), (⟨#[105, 110]⟩ : ByteArray), (⟨#[105, 102]⟩ : ByteArray), (⟨#[116, 104, 101, 110]⟩ : ByteArray), (⟨#[101, 108, 115, 101]⟩ : ByteArray)] : List ByteArray) : List ByteArray)).bind fun y164 => (saplingref12_Keyword.l0 k a0 y164 (y164.length : Int) 0)) = some r := h
  clear h
  obtain ⟨y164, hy164⟩ : ∃ y_ : List ByteArray, y_ = (([(⟨#[112, 97, 99, 107, 97, 103, 101]⟩ : ByteArray), (⟨#[118, 101, 114, 115, 105, 111, 110]⟩ : ByteArray), (⟨#[116, 111, 111, 108]⟩ : ByteArray), (⟨#[98, 117, 105, 108, 100]⟩ : ByteArray), (⟨#[114, 117, 110]⟩ : ByteArray), (⟨#[108, 101, 116]⟩ : ByteArray), (⟨#[105, 110]⟩ : ByteArray), (⟨#[105, 102]⟩ : ByteArray), (⟨#[116, 104, 101, 110]⟩ : ByteArray), (⟨#[101, 108, 115, 101]⟩ : ByteArray)] : List ByteArray)) := ⟨_, rfl⟩
  replace H : (saplingref12_Keyword.l0 k a0 y164 (y164.length : Int) 0) = some r := by first | (rw [hy164]; with_reducible exact H) | (have H2_ := (Option.bind_some _ _).symm.trans H; rw [hy164]; with_reducible exact H2_) | (have H2_ := (Option.bind_some _ _).symm.trans H; with_reducible exact H2_) | with_reducible exact H | (rw [hy164]; exact H) | exact H
  have Ny164 := Aside0.mk hy164
  clear hy164
  have H' := Aside0.mk H
  clear H
  go_enter Tryz.func231, Tryz.ntmps231
  go_wp2_with (first | ((with_reducible refine gate_dst (N := 5) rfl ?_); refine Kd.R_lit Kd.string _ 9 ?hg (N := 5) ?hd (xs := ([(⟨#[112, 97, 99, 107, 97, 103, 101]⟩ : ByteArray), (⟨#[118, 101, 114, 115, 105, 111, 110]⟩ : ByteArray), (⟨#[116, 111, 111, 108]⟩ : ByteArray), (⟨#[98, 117, 105, 108, 100]⟩ : ByteArray), (⟨#[114, 117, 110]⟩ : ByteArray), (⟨#[108, 101, 116]⟩ : ByteArray), (⟨#[105, 110]⟩ : ByteArray), (⟨#[105, 102]⟩ : ByteArray), (⟨#[116, 104, 101, 110]⟩ : ByteArray), (⟨#[101, 108, 115, 101]⟩ : ByteArray)] : List ByteArray)) (inner := [.string (⟨#[112, 97, 99, 107, 97, 103, 101]⟩ : ByteArray), .string (⟨#[118, 101, 114, 115, 105, 111, 110]⟩ : ByteArray), .string (⟨#[116, 111, 111, 108]⟩ : ByteArray), .string (⟨#[98, 117, 105, 108, 100]⟩ : ByteArray), .string (⟨#[114, 117, 110]⟩ : ByteArray), .string (⟨#[108, 101, 116]⟩ : ByteArray), .string (⟨#[105, 110]⟩ : ByteArray), .string (⟨#[105, 102]⟩ : ByteArray), .string (⟨#[116, 104, 101, 110]⟩ : ByteArray), .string (⟨#[101, 108, 115, 101]⟩ : ByteArray)]) (ok := fun _ => True) (okp := fun _ => True) ?hr ?hp (fun _ hk => hk) trivial (Below.refl _ _) (Nat.le_refl _) (by simp) ?_; (case hd => rfl); (case hg => rfl); (case hr => first | (go_simp; done) | (go_simp; rfl)); (case hp => exact (Reps.one (show Kd.M Kd.string _ _ _ (⟨#[112, 97, 99, 107, 97, 103, 101]⟩ : ByteArray) [.string (⟨#[112, 97, 99, 107, 97, 103, 101]⟩ : ByteArray)] from rfl) (Reps.one (show Kd.M Kd.string _ _ _ (⟨#[118, 101, 114, 115, 105, 111, 110]⟩ : ByteArray) [.string (⟨#[118, 101, 114, 115, 105, 111, 110]⟩ : ByteArray)] from rfl) (Reps.one (show Kd.M Kd.string _ _ _ (⟨#[116, 111, 111, 108]⟩ : ByteArray) [.string (⟨#[116, 111, 111, 108]⟩ : ByteArray)] from rfl) (Reps.one (show Kd.M Kd.string _ _ _ (⟨#[98, 117, 105, 108, 100]⟩ : ByteArray) [.string (⟨#[98, 117, 105, 108, 100]⟩ : ByteArray)] from rfl) (Reps.one (show Kd.M Kd.string _ _ _ (⟨#[114, 117, 110]⟩ : ByteArray) [.string (⟨#[114, 117, 110]⟩ : ByteArray)] from rfl) (Reps.one (show Kd.M Kd.string _ _ _ (⟨#[108, 101, 116]⟩ : ByteArray) [.string (⟨#[108, 101, 116]⟩ : ByteArray)] from rfl) (Reps.one (show Kd.M Kd.string _ _ _ (⟨#[105, 110]⟩ : ByteArray) [.string (⟨#[105, 110]⟩ : ByteArray)] from rfl) (Reps.one (show Kd.M Kd.string _ _ _ (⟨#[105, 102]⟩ : ByteArray) [.string (⟨#[105, 102]⟩ : ByteArray)] from rfl) (Reps.one (show Kd.M Kd.string _ _ _ (⟨#[116, 104, 101, 110]⟩ : ByteArray) [.string (⟨#[116, 104, 101, 110]⟩ : ByteArray)] from rfl) (Reps.one (show Kd.M Kd.string _ _ _ (⟨#[101, 108, 115, 101]⟩ : ByteArray) [.string (⟨#[101, 108, 115, 101]⟩ : ByteArray)] from rfl) (Reps.none _ _)))))))))))); intro v165 w2 ho3 hb hg_ hnew_; clear hg_ hnew_; (first | rw [← Ny164.out] at ho3 | (simp only [Int.reduceToNat] at ho3; rw [← Ny164.out] at ho3)); have n0_ := Aside0.mk (Kd.R_lower ho3 (below_size (by repeat (first | (with_reducible first | exact HB.out | apply below_alloc | apply pw_below_drewN | apply below_drew1) | exact HB.out)))); have n1_ := Aside0.mk (below_step (by repeat (first | (with_reducible first | exact HB.out | apply below_alloc | apply pw_below_drewN | apply below_drew1) | exact HB.out)) hb); clear HB; have HO166 := n0_; have HB := n1_; clear n0_ n1_; clear hb ho3; obtain ⟨Ao4, co4, eo4⟩ := Kd.R_slice HO166.out; subst eo4))
  go_loopg [7] k (fun kq v7 w' => ∃ (x7_1 : Int), v7 = .int .i64 x7_1 ∧ Aside0 (saplingref12_Keyword.l0 kq a0 y164 (y164.length : Int) x7_1 = some r) ∧ Aside0 (kq ≤ k) ∧ Aside0 (Kd.R Kd.string 9 w' w.heap.size (fun _ => True) (.slice Ao4 y164.length co4) y164) ∧ Aside0 (Below w.heap.size w w'))
  case atStart => exact ⟨(0), (by first | rfl | (simp; done) | (simp [*]; done) | (have e_ : ∀ l : List UInt8, (l != []) = !l.isEmpty := (fun l => by cases l <;> rfl); simp [e_]; done)), H', ⟨Nat.le_refl _⟩, ⟨by (with_reducible repeat (first | apply Kd.R_alloc | apply Kd.R_drewN | apply Kd.R_drew)); exact HO166.out⟩, ⟨by repeat (first | (with_reducible first | exact HB.out | apply below_alloc | apply pw_below_drewN | apply below_drew1) | exact HB.out)⟩⟩
  case round =>
    clear H'
    try clear c2
    try clear p2
    obtain ⟨x7_1, rfl, HA, HK1, HO_5, HB⟩ := hrel
    cases gk with
    | zero => exact absurd HA.out (by simp [saplingref12_Keyword.l0])
    | succ k1 =>
      have H := HA.out
      clear HA
      simp only [saplingref12_Keyword.l0] at H
      by_cases c5 : x7_1 < (y164.length : Int)
      · rw [if_pos c5] at H
        have c5b0 : decide (x7_1 < (y164.length : Int)) = true := decide_eq_true c5
        clear c5
        by_cases c6 : 0 ≤ x7_1
        · rw [if_pos c6] at H
          have c6b0 : decide (0 ≤ x7_1) = true := decide_eq_true c6
          clear c6
          by_cases c7 : x7_1 < (y164.length : Int)
          · rw [if_pos c7] at H
            have c7b0 : decide (x7_1 < (y164.length : Int)) = true := decide_eq_true c7
            clear c7
            by_cases c8 : a0.toList = (rdOf ByteArray.empty y164 x7_1).toList
            · rw [if_pos c8] at H
              have c8b0 : (a0.toList == (rdOf ByteArray.empty y164 x7_1).toList) = true := beq_iff_eq.mpr c8
              have c8b1 : (a0.toList != (rdOf ByteArray.empty y164 x7_1).toList) = false := bne_eq_false_iff_eq.mpr c8
              clear c8
              obtain rfl := Option.some.inj H
              have p167 : 0 ≤ (x7_1 : Int) := of_decide_eq_true (by first | (with_reducible assumption) | assumption)
              have q167 : x7_1 < (y164.length : Int) := of_decide_eq_true (by first | (with_reducible assumption) | assumption)
              obtain ⟨ad167, e167, hx167_0⟩ := Kd.at_string (Kd.R_reads' HO_5.out).2.2 x7_1 p167 q167
              cases e167
              replace p167 := eq_true p167
              replace q167 := eq_true q167
              go_wp2
              go_ret
              exact ⟨by first | rfl | (simp [errW_none, errW_some] <;> rfl) | (simp [*, errW_none, errW_some] <;> rfl), by repeat (first | (with_reducible first | exact HB.out | apply below_alloc | apply pw_below_drewN | apply below_drew1) | exact HB.out)⟩
            · rw [if_neg c8] at H
              have c8b0 : (a0.toList == (rdOf ByteArray.empty y164 x7_1).toList) = false := beq_eq_false_iff_ne.mpr c8
              have c8b1 : (a0.toList != (rdOf ByteArray.empty y164 x7_1).toList) = true := bne_iff_ne.mpr c8
              have H' := Aside0.mk H
              clear H
              have p167 : 0 ≤ (x7_1 : Int) := of_decide_eq_true (by first | (with_reducible assumption) | assumption)
              have q167 : x7_1 < (y164.length : Int) := of_decide_eq_true (by first | (with_reducible assumption) | assumption)
              obtain ⟨ad167, e167, hx167_0⟩ := Kd.at_string (Kd.R_reads' HO_5.out).2.2 x7_1 p167 q167
              cases e167
              replace p167 := eq_true p167
              replace q167 := eq_true q167
              go_wp2
              go_roundg k1
              case measure => have := HK1.out; omega
              case rel => exact ⟨(wrap64 (x7_1 + 1)), (by first | rfl | (simp; done) | (simp [*]; done) | (have e_ : ∀ l : List UInt8, (l != []) = !l.isEmpty := (fun l => by cases l <;> rfl); simp [e_]; done)), H', ⟨by have := HK1.out; omega⟩, ⟨by (with_reducible repeat (first | apply Kd.R_alloc | apply Kd.R_drewN | apply Kd.R_drew)); exact HO_5.out⟩, ⟨by repeat (first | (with_reducible first | exact HB.out | apply below_alloc | apply pw_below_drewN | apply below_drew1) | exact HB.out)⟩⟩
          · rw [if_neg c7] at H
            exact absurd H (by simp)
        · rw [if_neg c6] at H
          exact absurd H (by simp)
      · rw [if_neg c5] at H
        have c5b0 : decide (x7_1 < (y164.length : Int)) = false := decide_eq_false c5
        clear c5
        obtain rfl := Option.some.inj H
        go_wp2
        go_ret
        exact ⟨by first | rfl | (simp [errW_none, errW_some] <;> rfl) | (simp [*, errW_none, errW_some] <;> rfl), by repeat (first | (with_reducible first | exact HB.out | apply below_alloc | apply pw_below_drewN | apply below_drew1) | exact HB.out)⟩

end Go.Proofs.YtijgifinhbbmaaaGreatDoor.Q
-- Written by wip/xprint.py: the machine's side of a function, by program.
namespace Go.Proofs.YtijgifinhbbmaaaGreatDoor.Q
open Go.RowKit Go.Proofs.YtijgifinhbbmaaaGreatDoorW.PrintWords Go.Proofs.YtijgifinhbbmaaaGreatDoorW.PrintLast Go.Proofs.YtijgifinhbbmaaaGreatDoorW.PrintMore
attribute [local go_sem] max2_int min2_int max_two min_two max_three min_three max_four min_four   -- for this text's walks alone
set_option linter.unusedVariables false
set_option linter.unusedSimpArgs false

/-! ### saplingref12_Name: function 173 -/
def saplingref12_Name.l0 : Nat → ByteArray → Int → Option (Bool)
  | 0, _, _ => none
  | k + 1, x0, x3 => if x3 < (x0.size : Int) then (if 0 ≤ x3 then ((saplingref12_letter.f (bt x0 x3)).bind fun t168 => (if t168 = true then (saplingref12_Name.l0 k x0 (wrap64 (x3 + 1))) else (some false))) else (none)) else (if (x0.size : Int) ≥ 1 then (if (x0.size : Int) ≤ 32 then (if 0 < (x0.size : Int) then (if (bt x0 0) ≥ 97 then (if (bt x0 0) ≤ 122 then ((saplingref12_Keyword.f k x0).bind fun t169 => (some (!t169))) else (some false)) else (some false)) else (none)) else (some false)) else (some false))
def saplingref12_Name.f (k : Nat) (a0 : ByteArray) : Option (Bool) := saplingref12_Name.l0 k a0 0
theorem saplingref12_Name.mono_l : ∀ k, (∀ y0 y1, LeO (saplingref12_Name.l0 k y0 y1) (saplingref12_Name.l0 (k + 1) y0 y1))
  | 0 => fun _ _ r h => by simp [saplingref12_Name.l0] at h
  | k + 1 => by
    have ih0 := saplingref12_Name.mono_l k
    · intro y0 y1
      unfold saplingref12_Name.l0
      repeat' first
      | (with_reducible exact ih0 _ _)
      | (with_reducible exact saplingref12_Keyword.mono _ _)
      | (with_reducible exact LeO.refl _)
      | (with_reducible exact LeO.none _)
      | (with_reducible refine LeO.ite ?_ ?_)
      | (with_reducible refine LeO.bind ?_ (fun _ => ?_))
      | exact ih0 _ _
      | exact saplingref12_Keyword.mono _ _
      | exact LeO.none _
      | refine LeO.ite ?_ ?_
      | refine LeO.bind ?_ (fun _ => ?_)
theorem saplingref12_Name.mono : ∀ a0 k, LeO (saplingref12_Name.f k a0) (saplingref12_Name.f (k + 1) a0) := by
  intro a0 k
  have ih0 := saplingref12_Name.mono_l k
  unfold saplingref12_Name.f
  repeat' first
      | (with_reducible exact ih0 _ _)
      | (with_reducible exact saplingref12_Keyword.mono _ _)
      | (with_reducible exact LeO.refl _)
      | (with_reducible exact LeO.none _)
      | (with_reducible refine LeO.ite ?_ ?_)
      | (with_reducible refine LeO.bind ?_ (fun _ => ?_))
      | exact ih0 _ _
      | exact saplingref12_Keyword.mono _ _
      | exact LeO.none _
      | refine LeO.ite ?_ ?_
      | refine LeO.bind ?_ (fun _ => ?_)
set_option maxHeartbeats 8000000 in
set_option maxRecDepth 100000 in
theorem saplingref12_Name.calls (k : Nat) (a0 : ByteArray) (r : Bool) (w : World) (h : saplingref12_Name.f k a0 = some r) :
    Calls Tryz.prog 173 #[.string a0] w fun e w' => e = .returned (.bool r) ∧ Below w.heap.size w w' := by
  have HB := Aside0.mk (Below.refl w.heap.size w)
  have H : (saplingref12_Name.l0 k a0 0) = some r := h
  clear h
  have H' := Aside0.mk H
  clear H
  go_enter Tryz.func173, Tryz.ntmps173
  go_wp2
  go_loopg [3] k (fun kq v3 w' => ∃ (x3_1 : Int), v3 = .int .i64 x3_1 ∧ Aside0 (saplingref12_Name.l0 kq a0 x3_1 = some r) ∧ Aside0 (kq ≤ k) ∧ Aside0 (Below w.heap.size w w'))
  case atStart => exact ⟨(0), (by first | rfl | (simp; done) | (simp [*]; done) | (have e_ : ∀ l : List UInt8, (l != []) = !l.isEmpty := (fun l => by cases l <;> rfl); simp [e_]; done)), H', ⟨Nat.le_refl _⟩, ⟨by repeat (first | (with_reducible first | exact HB.out | apply below_alloc | apply pw_below_drewN | apply below_drew1) | exact HB.out)⟩⟩
  case round =>
    clear H'
    try clear c1
    obtain ⟨x3_1, rfl, HA, HK1, HB⟩ := hrel
    cases gk with
    | zero => exact absurd HA.out (by simp [saplingref12_Name.l0])
    | succ k1 =>
      have H := HA.out
      clear HA
      simp only [saplingref12_Name.l0] at H
      by_cases c2 : x3_1 < (a0.size : Int)
      · rw [if_pos c2] at H
        have c2b0 : decide (x3_1 < (a0.size : Int)) = true := decide_eq_true c2
        clear c2
        by_cases c3 : 0 ≤ x3_1
        · rw [if_pos c3] at H
          have c3b0 : decide (0 ≤ x3_1) = true := decide_eq_true c3
          clear c3
          replace H := Option.bind_eq_some_iff.mp H
          obtain ⟨t168, A50, H⟩ := H
          replace H : (if t168 = true then (saplingref12_Name.l0 k1 a0 (wrap64 (x3_1 + 1))) else (some false)) = some r := H
          have A5 := Aside0.mk A50
          clear A50
          by_cases c6 : t168 = true
          · subst c6
            have H1 : (saplingref12_Name.l0 k1 a0 (wrap64 (x3_1 + 1))) = some r := by rw [if_pos rfl] at H; exact H
            clear H
            have H := H1
            clear H1
            have H' := Aside0.mk H
            clear H
            have p4 : 0 ≤ (x3_1 : Int) := of_decide_eq_true (by first | (with_reducible assumption) | assumption)
            have q4 : x3_1 < (a0.size : Int) := of_decide_eq_true (by first | (with_reducible assumption) | assumption)
            have hx4 := bt_at a0 x3_1
            replace p4 := eq_true p4
            replace q4 := eq_true q4
            go_wp2_with (first | ((with_reducible refine gate_callee (f := 230) rfl ?_); refine goesL_ (some 13) rfl rfl Tryz.func230 (by kernel_rfl) rfl #[.int .u8 (bt a0 x3_1)] rfl (by (try simp only [List.map_toArray, List.map_cons, List.map_nil]); first | done | rfl | (simp only [List.length_drop, List.length_take]; rfl)) ?_; (with_reducible refine (saplingref12_letter.calls (bt a0 x3_1) true _ A5.out).mono ?_); rintro e w' ⟨rfl, ⟨nd, rfl⟩⟩; refine ⟨_, rfl, ?_⟩))
            go_roundg k1
            case measure => have := HK1.out; omega
            case rel => exact ⟨(wrap64 (x3_1 + 1)), (by first | rfl | (simp; done) | (simp [*]; done) | (have e_ : ∀ l : List UInt8, (l != []) = !l.isEmpty := (fun l => by cases l <;> rfl); simp [e_]; done)), H', ⟨by have := HK1.out; omega⟩, ⟨by repeat (first | (with_reducible first | exact HB.out | apply below_alloc | apply pw_below_drewN | apply below_drew1) | exact HB.out)⟩⟩
          · replace c6 := Bool.eq_false_iff.mpr c6
            subst c6
            have H1 : (some false) = some r := by rw [if_neg (show ¬ (false = true) by decide)] at H; exact H
            clear H
            have H := H1
            clear H1
            obtain rfl := Option.some.inj H
            have p4 : 0 ≤ (x3_1 : Int) := of_decide_eq_true (by first | (with_reducible assumption) | assumption)
            have q4 : x3_1 < (a0.size : Int) := of_decide_eq_true (by first | (with_reducible assumption) | assumption)
            have hx4 := bt_at a0 x3_1
            replace p4 := eq_true p4
            replace q4 := eq_true q4
            go_wp2_with (first | ((with_reducible refine gate_callee (f := 230) rfl ?_); refine goesL_ (some 13) rfl rfl Tryz.func230 (by kernel_rfl) rfl #[.int .u8 (bt a0 x3_1)] rfl (by (try simp only [List.map_toArray, List.map_cons, List.map_nil]); first | done | rfl | (simp only [List.length_drop, List.length_take]; rfl)) ?_; (with_reducible refine (saplingref12_letter.calls (bt a0 x3_1) false _ A5.out).mono ?_); rintro e w' ⟨rfl, ⟨nd, rfl⟩⟩; refine ⟨_, rfl, ?_⟩))
            go_ret
            exact ⟨by first | rfl | (simp [errW_none, errW_some] <;> rfl) | (simp [*, errW_none, errW_some] <;> rfl), by repeat (first | (with_reducible first | exact HB.out | apply below_alloc | apply pw_below_drewN | apply below_drew1) | exact HB.out)⟩
        · rw [if_neg c3] at H
          exact absurd H (by simp)
      · rw [if_neg c2] at H
        have c2b0 : decide (x3_1 < (a0.size : Int)) = false := decide_eq_false c2
        clear c2
        by_cases c7 : (a0.size : Int) ≥ 1
        · rw [if_pos c7] at H
          have c7b0 : decide (1 ≤ (a0.size : Int)) = true := decide_eq_true c7
          have c7b1 : decide (1 ≤ a0.size) = true := decide_eq_true (by omega)
          clear c7
          by_cases c8 : (a0.size : Int) ≤ 32
          · rw [if_pos c8] at H
            have c8b0 : decide ((a0.size : Int) ≤ 32) = true := decide_eq_true c8
            have c8b1 : decide (a0.size ≤ 32) = true := decide_eq_true (by omega)
            clear c8
            by_cases c9 : 0 < (a0.size : Int)
            · rw [if_pos c9] at H
              have c9b0 : decide (0 < (a0.size : Int)) = true := decide_eq_true c9
              have c9b1 : decide (0 < a0.size) = true := decide_eq_true (by omega)
              clear c9
              by_cases c11 : (bt a0 0) ≥ 97
              · rw [if_pos c11] at H
                have c11b0 : decide (97 ≤ (bt a0 0)) = true := decide_eq_true c11
                clear c11
                by_cases c13 : (bt a0 0) ≤ 122
                · rw [if_pos c13] at H
                  have c13b0 : decide ((bt a0 0) ≤ 122) = true := decide_eq_true c13
                  clear c13
                  replace H := Option.bind_eq_some_iff.mp H
                  obtain ⟨t169, A140, H⟩ := H
                  replace H : (some (!t169)) = some r := H
                  have A14 := Aside0.mk A140
                  clear A140
                  obtain rfl := Option.some.inj H
                  have p10 : 0 ≤ (0 : Int) := (by omega)
                  have q10 : 0 < a0.size := (by have : (0 : Int) < (a0.size : Int) := of_decide_eq_true (by first | (with_reducible assumption) | assumption); omega)
                  have hx10 : ∀ h : 0 < a0.size, ((a0[0]'h).toNat : Int) = bt a0 0 := bt_at a0 0
                  clear p10
                  have qi10 : (0 < (a0.size : Int)) = True := eq_true (of_decide_eq_true (by first | (with_reducible assumption) | assumption))
                  replace q10 := eq_true q10
                  have p12 : 0 ≤ (0 : Int) := (by omega)
                  have q12 : 0 < a0.size := (by have : (0 : Int) < (a0.size : Int) := of_decide_eq_true (by first | (with_reducible assumption) | assumption); omega)
                  have hx12 : ∀ h : 0 < a0.size, ((a0[0]'h).toNat : Int) = bt a0 0 := bt_at a0 0
                  clear p12
                  have qi12 : (0 < (a0.size : Int)) = True := eq_true (of_decide_eq_true (by first | (with_reducible assumption) | assumption))
                  replace q12 := eq_true q12
                  go_wp2_with (first | (go_at_call 231; (with_reducible refine (saplingref12_Keyword.calls k1 a0 t169 _ A14.out).mono ?_); rintro e w15 ⟨rfl, hb⟩; have n0_ := Aside0.mk (below_step (by repeat (first | (with_reducible first | exact HB.out | apply below_alloc | apply pw_below_drewN | apply below_drew1) | exact HB.out)) hb); clear HB; have HB := n0_; clear n0_; (try clear hb); (try clear hb2); (try clear hk); (try clear hi)))
                  go_ret
                  exact ⟨by first | rfl | (simp [errW_none, errW_some] <;> rfl) | (simp [*, errW_none, errW_some] <;> rfl), by repeat (first | (with_reducible first | exact HB.out | apply below_alloc | apply pw_below_drewN | apply below_drew1) | exact HB.out)⟩
                · rw [if_neg c13] at H
                  have c13b0 : decide ((bt a0 0) ≤ 122) = false := decide_eq_false c13
                  clear c13
                  obtain rfl := Option.some.inj H
                  have p10 : 0 ≤ (0 : Int) := (by omega)
                  have q10 : 0 < a0.size := (by have : (0 : Int) < (a0.size : Int) := of_decide_eq_true (by first | (with_reducible assumption) | assumption); omega)
                  have hx10 : ∀ h : 0 < a0.size, ((a0[0]'h).toNat : Int) = bt a0 0 := bt_at a0 0
                  clear p10
                  have qi10 : (0 < (a0.size : Int)) = True := eq_true (of_decide_eq_true (by first | (with_reducible assumption) | assumption))
                  replace q10 := eq_true q10
                  have p12 : 0 ≤ (0 : Int) := (by omega)
                  have q12 : 0 < a0.size := (by have : (0 : Int) < (a0.size : Int) := of_decide_eq_true (by first | (with_reducible assumption) | assumption); omega)
                  have hx12 : ∀ h : 0 < a0.size, ((a0[0]'h).toNat : Int) = bt a0 0 := bt_at a0 0
                  clear p12
                  have qi12 : (0 < (a0.size : Int)) = True := eq_true (of_decide_eq_true (by first | (with_reducible assumption) | assumption))
                  replace q12 := eq_true q12
                  go_wp2
                  go_ret
                  exact ⟨by first | rfl | (simp [errW_none, errW_some] <;> rfl) | (simp [*, errW_none, errW_some] <;> rfl), by repeat (first | (with_reducible first | exact HB.out | apply below_alloc | apply pw_below_drewN | apply below_drew1) | exact HB.out)⟩
              · rw [if_neg c11] at H
                have c11b0 : decide (97 ≤ (bt a0 0)) = false := decide_eq_false c11
                clear c11
                obtain rfl := Option.some.inj H
                have p10 : 0 ≤ (0 : Int) := (by omega)
                have q10 : 0 < a0.size := (by have : (0 : Int) < (a0.size : Int) := of_decide_eq_true (by first | (with_reducible assumption) | assumption); omega)
                have hx10 : ∀ h : 0 < a0.size, ((a0[0]'h).toNat : Int) = bt a0 0 := bt_at a0 0
                clear p10
                have qi10 : (0 < (a0.size : Int)) = True := eq_true (of_decide_eq_true (by first | (with_reducible assumption) | assumption))
                replace q10 := eq_true q10
                go_wp2
                go_ret
                exact ⟨by first | rfl | (simp [errW_none, errW_some] <;> rfl) | (simp [*, errW_none, errW_some] <;> rfl), by repeat (first | (with_reducible first | exact HB.out | apply below_alloc | apply pw_below_drewN | apply below_drew1) | exact HB.out)⟩
            · rw [if_neg c9] at H
              exact absurd H (by simp)
          · rw [if_neg c8] at H
            have c8b0 : decide ((a0.size : Int) ≤ 32) = false := decide_eq_false c8
            have c8b1 : decide (a0.size ≤ 32) = false := decide_eq_false (by omega)
            clear c8
            obtain rfl := Option.some.inj H
            go_wp2
            go_ret
            exact ⟨by first | rfl | (simp [errW_none, errW_some] <;> rfl) | (simp [*, errW_none, errW_some] <;> rfl), by repeat (first | (with_reducible first | exact HB.out | apply below_alloc | apply pw_below_drewN | apply below_drew1) | exact HB.out)⟩
        · rw [if_neg c7] at H
          have c7b0 : decide (1 ≤ (a0.size : Int)) = false := decide_eq_false c7
          have c7b1 : decide (1 ≤ a0.size) = false := decide_eq_false (by omega)
          clear c7
          obtain rfl := Option.some.inj H
          go_wp2
          go_ret
          exact ⟨by first | rfl | (simp [errW_none, errW_some] <;> rfl) | (simp [*, errW_none, errW_some] <;> rfl), by repeat (first | (with_reducible first | exact HB.out | apply below_alloc | apply pw_below_drewN | apply below_drew1) | exact HB.out)⟩

end Go.Proofs.YtijgifinhbbmaaaGreatDoor.Q
-- Written by wip/xprint.py: the machine's side of a function, by program.
namespace Go.Proofs.YtijgifinhbbmaaaGreatDoor.Q
open Go.RowKit Go.Proofs.YtijgifinhbbmaaaGreatDoorW.PrintWords Go.Proofs.YtijgifinhbbmaaaGreatDoorW.PrintLast Go.Proofs.YtijgifinhbbmaaaGreatDoorW.PrintMore
attribute [local go_sem] max2_int min2_int max_two min_two max_three min_three max_four min_four   -- for this text's walks alone
set_option linter.unusedVariables false
set_option linter.unusedSimpArgs false

/-! ### saplingref12_Parts: function 134 -/
mutual
def saplingref12_Parts.j0 : Nat → Int → Int → Int → Bool → Int → ByteArray → List (S84) → Option (Int)
  | 0, _, _, _, _, _, _, _ => none
  | k + 1, x1, x2, x7, x8, x171000, x171001, x171002 => if x8 = true then (saplingref12_Parts.j1 k x1 x2 x7 true x171000 x171001 x171002) else (if x171000 = 2 then ((saplingref12_Name.f k x171001).bind fun t171 => (saplingref12_Parts.j1 k x1 x2 x7 (!t171) x171000 x171001 x171002)) else (if x171000 = 5 then ((saplingref12_Name.f k x171001).bind fun t172 => (saplingref12_Parts.j1 k x1 x2 x7 (!t172) x171000 x171001 x171002)) else (saplingref12_Parts.j1 k x1 x2 x7 false x171000 x171001 x171002)))
def saplingref12_Parts.j1 : Nat → Int → Int → Int → Bool → Int → ByteArray → List (S84) → Option (Int)
  | 0, _, _, _, _, _, _, _ => none
  | k + 1, x1, x2, x7, x8, x171000, x171001, x171002 => if x8 = true then (saplingref12_Parts.j2 k x1 x2 x7 true x171000 x171001 x171002) else (if x171000 = 3 then (saplingref12_Parts.j2 k x1 x2 x7 (x171001.toList != ([] : List UInt8)) x171000 x171001 x171002) else (if x171000 = 4 then (saplingref12_Parts.j2 k x1 x2 x7 (x171001.toList != ([] : List UInt8)) x171000 x171001 x171002) else (saplingref12_Parts.j2 k x1 x2 x7 false x171000 x171001 x171002)))
def saplingref12_Parts.j2 : Nat → Int → Int → Int → Bool → Int → ByteArray → List (S84) → Option (Int)
  | 0, _, _, _, _, _, _, _ => none
  | k + 1, x1, x2, x7, x8, x171000, x171001, x171002 => if x8 = true then (saplingref12_Parts.j3 k x1 x2 x7 true x171000 x171001 x171002) else (if x171000 ≤ 2 then (if x7 > 0 then (saplingref12_Parts.j3 k x1 x2 x7 true x171000 x171001 x171002) else (if x171000 = 3 then (if x7 < 2 then (saplingref12_Parts.j3 k x1 x2 x7 true x171000 x171001 x171002) else (if x171000 = 4 then (if x7 = 4 then (if x171000 = 5 then (saplingref12_Parts.j3 k x1 x2 x7 (x7 != 2) x171000 x171001 x171002) else (saplingref12_Parts.j3 k x1 x2 x7 false x171000 x171001 x171002)) else (saplingref12_Parts.j3 k x1 x2 x7 true x171000 x171001 x171002)) else (if x171000 = 5 then (saplingref12_Parts.j3 k x1 x2 x7 (x7 != 2) x171000 x171001 x171002) else (saplingref12_Parts.j3 k x1 x2 x7 false x171000 x171001 x171002)))) else (if x171000 = 4 then (if x7 = 4 then (if x171000 = 5 then (saplingref12_Parts.j3 k x1 x2 x7 (x7 != 2) x171000 x171001 x171002) else (saplingref12_Parts.j3 k x1 x2 x7 false x171000 x171001 x171002)) else (saplingref12_Parts.j3 k x1 x2 x7 true x171000 x171001 x171002)) else (if x171000 = 5 then (saplingref12_Parts.j3 k x1 x2 x7 (x7 != 2) x171000 x171001 x171002) else (saplingref12_Parts.j3 k x1 x2 x7 false x171000 x171001 x171002))))) else (if x171000 = 3 then (if x7 < 2 then (saplingref12_Parts.j3 k x1 x2 x7 true x171000 x171001 x171002) else (if x171000 = 4 then (if x7 = 4 then (if x171000 = 5 then (saplingref12_Parts.j3 k x1 x2 x7 (x7 != 2) x171000 x171001 x171002) else (saplingref12_Parts.j3 k x1 x2 x7 false x171000 x171001 x171002)) else (saplingref12_Parts.j3 k x1 x2 x7 true x171000 x171001 x171002)) else (if x171000 = 5 then (saplingref12_Parts.j3 k x1 x2 x7 (x7 != 2) x171000 x171001 x171002) else (saplingref12_Parts.j3 k x1 x2 x7 false x171000 x171001 x171002)))) else (if x171000 = 4 then (if x7 = 4 then (if x171000 = 5 then (saplingref12_Parts.j3 k x1 x2 x7 (x7 != 2) x171000 x171001 x171002) else (saplingref12_Parts.j3 k x1 x2 x7 false x171000 x171001 x171002)) else (saplingref12_Parts.j3 k x1 x2 x7 true x171000 x171001 x171002)) else (if x171000 = 5 then (saplingref12_Parts.j3 k x1 x2 x7 (x7 != 2) x171000 x171001 x171002) else (saplingref12_Parts.j3 k x1 x2 x7 false x171000 x171001 x171002)))))
def saplingref12_Parts.j3 : Nat → Int → Int → Int → Bool → Int → ByteArray → List (S84) → Option (Int)
  | 0, _, _, _, _, _, _, _ => none
  | k + 1, x1, x2, x7, x8, x171000, x171001, x171002 => if x8 = true then (some (-1)) else (saplingref12_Parts.l0 k x1 (wrap64 (x2 - 1)) x7 0 x171000 x171001 x171002)
def saplingref12_Parts.l0 : Nat → Int → Int → Int → Int → Int → ByteArray → List (S84) → Option (Int)
  | 0, _, _, _, _, _, _, _ => none
  | k + 1, x1, x2, x7, x9, x171000, x171001, x171002 => if x9 < x7 then (if x2 ≥ 0 then (if 0 ≤ x9 then (if x9 < (x171002.length : Int) then ((saplingref12_Parts.f k ((rd_T84 x171002 x9).f0) ((rd_T84 x171002 x9).f1) ((rd_T84 x171002 x9).f2) (wrap64 (x1 + 1)) x2).bind fun t174 => (saplingref12_Parts.l0 k x1 t174 x7 (wrap64 (x9 + 1)) x171000 x171001 x171002)) else (none)) else (none)) else (some x2)) else (some x2)
def saplingref12_Parts.f : Nat → Int → ByteArray → List (S84) → Int → Int → Option (Int)
  | 0, _, _, _, _, _ => none
  | k + 1, a0_0, a0_1, l0_2, a1, a2 => if a0_0 < 1 then (saplingref12_Parts.j0 k a1 a2 (l0_2.length : Int) true a0_0 a0_1 l0_2) else (if a0_0 > 5 then (saplingref12_Parts.j0 k a1 a2 (l0_2.length : Int) true a0_0 a0_1 l0_2) else (saplingref12_Parts.j0 k a1 a2 (l0_2.length : Int) (decide (a1 ≥ 64)) a0_0 a0_1 l0_2))
end
theorem saplingref12_Parts.mono_l : ∀ k, (∀ y0 y1 y2 y3 y4, LeO (saplingref12_Parts.f k y0 y1 y2 y3 y4) (saplingref12_Parts.f (k + 1) y0 y1 y2 y3 y4)) ∧ (∀ y0 y1 y2 y3 y4 y5 y6, LeO (saplingref12_Parts.j0 k y0 y1 y2 y3 y4 y5 y6) (saplingref12_Parts.j0 (k + 1) y0 y1 y2 y3 y4 y5 y6)) ∧ (∀ y0 y1 y2 y3 y4 y5 y6, LeO (saplingref12_Parts.j1 k y0 y1 y2 y3 y4 y5 y6) (saplingref12_Parts.j1 (k + 1) y0 y1 y2 y3 y4 y5 y6)) ∧ (∀ y0 y1 y2 y3 y4 y5 y6, LeO (saplingref12_Parts.j2 k y0 y1 y2 y3 y4 y5 y6) (saplingref12_Parts.j2 (k + 1) y0 y1 y2 y3 y4 y5 y6)) ∧ (∀ y0 y1 y2 y3 y4 y5 y6, LeO (saplingref12_Parts.j3 k y0 y1 y2 y3 y4 y5 y6) (saplingref12_Parts.j3 (k + 1) y0 y1 y2 y3 y4 y5 y6)) ∧ (∀ y0 y1 y2 y3 y4 y5 y6, LeO (saplingref12_Parts.l0 k y0 y1 y2 y3 y4 y5 y6) (saplingref12_Parts.l0 (k + 1) y0 y1 y2 y3 y4 y5 y6))
  | 0 => ⟨fun _ _ _ _ _ r h => by simp [saplingref12_Parts.f] at h, fun _ _ _ _ _ _ _ r h => by simp [saplingref12_Parts.j0] at h, fun _ _ _ _ _ _ _ r h => by simp [saplingref12_Parts.j1] at h, fun _ _ _ _ _ _ _ r h => by simp [saplingref12_Parts.j2] at h, fun _ _ _ _ _ _ _ r h => by simp [saplingref12_Parts.j3] at h, fun _ _ _ _ _ _ _ r h => by simp [saplingref12_Parts.l0] at h⟩
  | k + 1 => by
    obtain ⟨ih0, ih1, ih2, ih3, ih4, ih5⟩ := saplingref12_Parts.mono_l k
    refine ⟨?_, ?_, ?_, ?_, ?_, ?_⟩
    · intro y0 y1 y2 y3 y4
      unfold saplingref12_Parts.f
      repeat' first
      | (with_reducible exact ih0 _ _ _ _ _)
      | (with_reducible exact ih1 _ _ _ _ _ _ _)
      | (with_reducible exact ih2 _ _ _ _ _ _ _)
      | (with_reducible exact ih3 _ _ _ _ _ _ _)
      | (with_reducible exact ih4 _ _ _ _ _ _ _)
      | (with_reducible exact ih5 _ _ _ _ _ _ _)
      | (with_reducible exact saplingref12_Name.mono _ _)
      | (with_reducible exact LeO.refl _)
      | (with_reducible exact LeO.none _)
      | (with_reducible refine LeO.ite ?_ ?_)
      | (with_reducible refine LeO.bind ?_ (fun _ => ?_))
      | exact ih0 _ _ _ _ _
      | exact ih1 _ _ _ _ _ _ _
      | exact ih2 _ _ _ _ _ _ _
      | exact ih3 _ _ _ _ _ _ _
      | exact ih4 _ _ _ _ _ _ _
      | exact ih5 _ _ _ _ _ _ _
      | exact saplingref12_Name.mono _ _
      | exact LeO.none _
      | refine LeO.ite ?_ ?_
      | refine LeO.bind ?_ (fun _ => ?_)
    · intro y0 y1 y2 y3 y4 y5 y6
      unfold saplingref12_Parts.j0
      repeat' first
      | (with_reducible exact ih0 _ _ _ _ _)
      | (with_reducible exact ih1 _ _ _ _ _ _ _)
      | (with_reducible exact ih2 _ _ _ _ _ _ _)
      | (with_reducible exact ih3 _ _ _ _ _ _ _)
      | (with_reducible exact ih4 _ _ _ _ _ _ _)
      | (with_reducible exact ih5 _ _ _ _ _ _ _)
      | (with_reducible exact saplingref12_Name.mono _ _)
      | (with_reducible exact LeO.refl _)
      | (with_reducible exact LeO.none _)
      | (with_reducible refine LeO.ite ?_ ?_)
      | (with_reducible refine LeO.bind ?_ (fun _ => ?_))
      | exact ih0 _ _ _ _ _
      | exact ih1 _ _ _ _ _ _ _
      | exact ih2 _ _ _ _ _ _ _
      | exact ih3 _ _ _ _ _ _ _
      | exact ih4 _ _ _ _ _ _ _
      | exact ih5 _ _ _ _ _ _ _
      | exact saplingref12_Name.mono _ _
      | exact LeO.none _
      | refine LeO.ite ?_ ?_
      | refine LeO.bind ?_ (fun _ => ?_)
    · intro y0 y1 y2 y3 y4 y5 y6
      unfold saplingref12_Parts.j1
      repeat' first
      | (with_reducible exact ih0 _ _ _ _ _)
      | (with_reducible exact ih1 _ _ _ _ _ _ _)
      | (with_reducible exact ih2 _ _ _ _ _ _ _)
      | (with_reducible exact ih3 _ _ _ _ _ _ _)
      | (with_reducible exact ih4 _ _ _ _ _ _ _)
      | (with_reducible exact ih5 _ _ _ _ _ _ _)
      | (with_reducible exact saplingref12_Name.mono _ _)
      | (with_reducible exact LeO.refl _)
      | (with_reducible exact LeO.none _)
      | (with_reducible refine LeO.ite ?_ ?_)
      | (with_reducible refine LeO.bind ?_ (fun _ => ?_))
      | exact ih0 _ _ _ _ _
      | exact ih1 _ _ _ _ _ _ _
      | exact ih2 _ _ _ _ _ _ _
      | exact ih3 _ _ _ _ _ _ _
      | exact ih4 _ _ _ _ _ _ _
      | exact ih5 _ _ _ _ _ _ _
      | exact saplingref12_Name.mono _ _
      | exact LeO.none _
      | refine LeO.ite ?_ ?_
      | refine LeO.bind ?_ (fun _ => ?_)
    · intro y0 y1 y2 y3 y4 y5 y6
      unfold saplingref12_Parts.j2
      repeat' first
      | (with_reducible exact ih0 _ _ _ _ _)
      | (with_reducible exact ih1 _ _ _ _ _ _ _)
      | (with_reducible exact ih2 _ _ _ _ _ _ _)
      | (with_reducible exact ih3 _ _ _ _ _ _ _)
      | (with_reducible exact ih4 _ _ _ _ _ _ _)
      | (with_reducible exact ih5 _ _ _ _ _ _ _)
      | (with_reducible exact saplingref12_Name.mono _ _)
      | (with_reducible exact LeO.refl _)
      | (with_reducible exact LeO.none _)
      | (with_reducible refine LeO.ite ?_ ?_)
      | (with_reducible refine LeO.bind ?_ (fun _ => ?_))
      | exact ih0 _ _ _ _ _
      | exact ih1 _ _ _ _ _ _ _
      | exact ih2 _ _ _ _ _ _ _
      | exact ih3 _ _ _ _ _ _ _
      | exact ih4 _ _ _ _ _ _ _
      | exact ih5 _ _ _ _ _ _ _
      | exact saplingref12_Name.mono _ _
      | exact LeO.none _
      | refine LeO.ite ?_ ?_
      | refine LeO.bind ?_ (fun _ => ?_)
    · intro y0 y1 y2 y3 y4 y5 y6
      unfold saplingref12_Parts.j3
      repeat' first
      | (with_reducible exact ih0 _ _ _ _ _)
      | (with_reducible exact ih1 _ _ _ _ _ _ _)
      | (with_reducible exact ih2 _ _ _ _ _ _ _)
      | (with_reducible exact ih3 _ _ _ _ _ _ _)
      | (with_reducible exact ih4 _ _ _ _ _ _ _)
      | (with_reducible exact ih5 _ _ _ _ _ _ _)
      | (with_reducible exact saplingref12_Name.mono _ _)
      | (with_reducible exact LeO.refl _)
      | (with_reducible exact LeO.none _)
      | (with_reducible refine LeO.ite ?_ ?_)
      | (with_reducible refine LeO.bind ?_ (fun _ => ?_))
      | exact ih0 _ _ _ _ _
      | exact ih1 _ _ _ _ _ _ _
      | exact ih2 _ _ _ _ _ _ _
      | exact ih3 _ _ _ _ _ _ _
      | exact ih4 _ _ _ _ _ _ _
      | exact ih5 _ _ _ _ _ _ _
      | exact saplingref12_Name.mono _ _
      | exact LeO.none _
      | refine LeO.ite ?_ ?_
      | refine LeO.bind ?_ (fun _ => ?_)
    · intro y0 y1 y2 y3 y4 y5 y6
      unfold saplingref12_Parts.l0
      repeat' first
      | (with_reducible exact ih0 _ _ _ _ _)
      | (with_reducible exact ih1 _ _ _ _ _ _ _)
      | (with_reducible exact ih2 _ _ _ _ _ _ _)
      | (with_reducible exact ih3 _ _ _ _ _ _ _)
      | (with_reducible exact ih4 _ _ _ _ _ _ _)
      | (with_reducible exact ih5 _ _ _ _ _ _ _)
      | (with_reducible exact saplingref12_Name.mono _ _)
      | (with_reducible exact LeO.refl _)
      | (with_reducible exact LeO.none _)
      | (with_reducible refine LeO.ite ?_ ?_)
      | (with_reducible refine LeO.bind ?_ (fun _ => ?_))
      | exact ih0 _ _ _ _ _
      | exact ih1 _ _ _ _ _ _ _
      | exact ih2 _ _ _ _ _ _ _
      | exact ih3 _ _ _ _ _ _ _
      | exact ih4 _ _ _ _ _ _ _
      | exact ih5 _ _ _ _ _ _ _
      | exact saplingref12_Name.mono _ _
      | exact LeO.none _
      | refine LeO.ite ?_ ?_
      | refine LeO.bind ?_ (fun _ => ?_)
theorem saplingref12_Parts.mono : ∀ a0 a1 a2 a3 a4 k, LeO (saplingref12_Parts.f k a0 a1 a2 a3 a4) (saplingref12_Parts.f (k + 1) a0 a1 a2 a3 a4) := by
  intro a0 a1 a2 a3 a4 k
  obtain ⟨ih0, ih1, ih2, ih3, ih4, ih5⟩ := saplingref12_Parts.mono_l k
  exact ih0 a0 a1 a2 a3 a4
set_option maxHeartbeats 8000000 in
set_option maxRecDepth 100000 in
theorem saplingref12_Parts.calls (k : Nat) : ∀ (a0_0 : Int) (a0_1 : ByteArray) (A0_2 : Option Addr) (c0_2 : Nat) (l0_2 : List (S84)) (a1 : Int) (a2 : Int) (r : Int) (w : World) (hr0_2 : Kd.C k84 w A0_2 l0_2.length l0_2) (hc0_2 : l0_2.length ≤ c0_2) (h : saplingref12_Parts.f k a0_0 a0_1 l0_2 a1 a2 = some r),
    Calls Tryz.prog 134 #[.agg #[.int .i64 a0_0, .string a0_1, .slice A0_2 l0_2.length c0_2], .int .i64 a1, .int .i64 a2] w fun e w' => e = .returned (.int .i64 r) ∧ Below w.heap.size w w' := by
  induction k using Nat.strongRecOn with
  | _ k ih =>
  intro a0_0 a0_1 A0_2 c0_2 l0_2 a1 a2 r w hr0_2 hc0_2 h
  cases k with
  | zero => exact absurd h (by simp [saplingref12_Parts.f])
  | succ k =>
  simp only [saplingref12_Parts.f] at h
  have hu84 := Tryz.underlying84
  have HR0_2 := Aside0.mk hr0_2
  have HC0_2 := Aside0.mk hc0_2
  clear hr0_2 hc0_2
  have HB := Aside0.mk (Below.refl w.heap.size w)
  have H : (if a0_0 < 1 then (saplingref12_Parts.j0 k a1 a2 (l0_2.length : Int) true a0_0 a0_1 l0_2) else (if a0_0 > 5 then (saplingref12_Parts.j0 k a1 a2 (l0_2.length : Int) true a0_0 a0_1 l0_2) else (saplingref12_Parts.j0 k a1 a2 (l0_2.length : Int) (decide (a1 ≥ 64)) a0_0 a0_1 l0_2))) = some r := h
  clear h
  have HC4 := Aside0.mk H
  clear H
  go_enter Tryz.func134, Tryz.ntmps134
  go_upto_region 2 with (first | ((with_reducible refine gate_dst (N := 3) rfl ?_); refine box_event ?hg (N := 3) ?hd (cs := #[.int .i64 a0_0, .string a0_1, .slice A0_2 l0_2.length c0_2]) (t := 84) ?hr ?_; (case hd => rfl); (case hg => rfl); (case hr => first | (go_simp; done) | (go_simp; rfl)); intro gb170 hg w5 hbox hb; have n0_ := Aside0.mk (below_step (by repeat (first | (with_reducible first | exact HB.out | apply below_alloc | apply pw_below_drewN | apply below_drew1) | exact HB.out)) hb); have n1_ := Aside0.mk (hbox); have n2_ := Aside0.mk ((by rw [hg]; exact (below_size (by repeat (first | (with_reducible first | exact HB.out | apply below_alloc | apply pw_below_drewN | apply below_drew1) | exact HB.out))) : w.heap.size ≤ gb170)); have n3_ := Aside0.mk ((by rw [hg]; exact (below_size (by repeat (first | (with_reducible first | exact HB.out | apply below_alloc | apply pw_below_drewN | apply below_drew1) | exact HB.out))) : w.heap.size ≤ gb170)); clear HB; have HB := n0_; have BK170 := n1_; have GW170 := n2_; have GE170 := n3_; clear n0_ n1_ n2_ n3_; clear hb hbox hg; have hcz6_0 : w5.cell? ⟨gb170, 0, none⟩ = some (.int .i64 a0_0) := (blk_cell BK170.out 0).trans rfl; have hcz6_1 : w5.cell? ⟨gb170, 1, none⟩ = some (.string a0_1) := (blk_cell BK170.out 1).trans rfl; have hcz6_2 : w5.cell? ⟨gb170, 2, none⟩ = some (.slice A0_2 l0_2.length c0_2) := (blk_cell BK170.out 2).trans rfl; have hfz6_0 := blk_frozen BK170.out 0; have hfz6_1 := blk_frozen BK170.out 1; have hfz6_2 := blk_frozen BK170.out 2))
  (try simp only [Act.put, List.setIfInBounds_toArray, List.set_cons_zero, List.set_cons_succ])
  go_cut [8] (fun v8 wc => ∃ (kq : Nat) (x8_3 : Bool), v8 = .bool x8_3 ∧ Aside0 (saplingref12_Parts.j0 kq a1 a2 (l0_2.length : Int) x8_3 a0_0 a0_1 l0_2 = some r) ∧ Aside0 (kq ≤ k) ∧ Aside0 (wc.heap[gb170]? = some (.cells #[.int .i64 a0_0, .string a0_1, (.slice A0_2 l0_2.length c0_2)] 84 (0, 0))) ∧ Aside0 (Below w.heap.size w wc))
  case first =>
    have H := HC4.out
    clear HC4
    by_cases c7 : a0_0 < 1
    · rw [if_pos c7] at H
      have c7b0 : decide (a0_0 < 1) = true := decide_eq_true c7
      clear c7
      (first | rw [c7b0] | (simp only [i64_w, i32_w]; rw [c7b0]) | skip)
      have H' := Aside0.mk H
      clear H
      have hcz8_0 : w5.cell? ⟨gb170, 0, none⟩ = some (.int .i64 a0_0) := (blk_cell BK170.out 0).trans rfl
      have hcz8_1 : w5.cell? ⟨gb170, 1, none⟩ = some (.string a0_1) := (blk_cell BK170.out 1).trans rfl
      have hcz8_2 : w5.cell? ⟨gb170, 2, none⟩ = some (.slice A0_2 l0_2.length c0_2) := (blk_cell BK170.out 2).trans rfl
      have hfz8_0 := blk_frozen BK170.out 0
      have hfz8_1 := blk_frozen BK170.out 1
      have hfz8_2 := blk_frozen BK170.out 2
      go_wp2
      go_meet
      case rel => exact ⟨_, (true), (by first | rfl | (simp; done) | (simp [*]; done) | (have e_ : ∀ l : List UInt8, (l != []) = !l.isEmpty := (fun l => by cases l <;> rfl); simp [e_]; done)), H', ⟨by first | omega | exact Nat.le_refl _⟩, ⟨by (with_reducible repeat (first | refine blk_drewN ?_ _ | refine blk_drew ?_ | refine blk_alloc ?_ _)); exact BK170.out⟩, ⟨by repeat (first | (with_reducible first | exact HB.out | apply below_alloc | apply pw_below_drewN | apply below_drew1 | refine below_set ?_ GE170.out) | exact HB.out)⟩⟩
    · rw [if_neg c7] at H
      have c7b0 : decide (a0_0 < 1) = false := decide_eq_false c7
      clear c7
      (first | rw [c7b0] | (simp only [i64_w, i32_w]; rw [c7b0]) | skip)
      by_cases c9 : a0_0 > 5
      · rw [if_pos c9] at H
        have c9b0 : decide (5 < a0_0) = true := decide_eq_true c9
        clear c9
        have H' := Aside0.mk H
        clear H
        have hcz10_0 : w5.cell? ⟨gb170, 0, none⟩ = some (.int .i64 a0_0) := (blk_cell BK170.out 0).trans rfl
        have hcz10_1 : w5.cell? ⟨gb170, 1, none⟩ = some (.string a0_1) := (blk_cell BK170.out 1).trans rfl
        have hcz10_2 : w5.cell? ⟨gb170, 2, none⟩ = some (.slice A0_2 l0_2.length c0_2) := (blk_cell BK170.out 2).trans rfl
        have hfz10_0 := blk_frozen BK170.out 0
        have hfz10_1 := blk_frozen BK170.out 1
        have hfz10_2 := blk_frozen BK170.out 2
        go_wp2
        go_meet
        case rel => exact ⟨_, (true), (by first | rfl | (simp; done) | (simp [*]; done) | (have e_ : ∀ l : List UInt8, (l != []) = !l.isEmpty := (fun l => by cases l <;> rfl); simp [e_]; done)), H', ⟨by first | omega | exact Nat.le_refl _⟩, ⟨by (with_reducible repeat (first | refine blk_drewN ?_ _ | refine blk_drew ?_ | refine blk_alloc ?_ _)); exact BK170.out⟩, ⟨by repeat (first | (with_reducible first | exact HB.out | apply below_alloc | apply pw_below_drewN | apply below_drew1 | refine below_set ?_ GE170.out) | exact HB.out)⟩⟩
      · rw [if_neg c9] at H
        have c9b0 : decide (5 < a0_0) = false := decide_eq_false c9
        clear c9
        have H' := Aside0.mk H
        clear H
        have hcz11_0 : w5.cell? ⟨gb170, 0, none⟩ = some (.int .i64 a0_0) := (blk_cell BK170.out 0).trans rfl
        have hcz11_1 : w5.cell? ⟨gb170, 1, none⟩ = some (.string a0_1) := (blk_cell BK170.out 1).trans rfl
        have hcz11_2 : w5.cell? ⟨gb170, 2, none⟩ = some (.slice A0_2 l0_2.length c0_2) := (blk_cell BK170.out 2).trans rfl
        have hfz11_0 := blk_frozen BK170.out 0
        have hfz11_1 := blk_frozen BK170.out 1
        have hfz11_2 := blk_frozen BK170.out 2
        go_wp2
        go_meet
        case rel => exact ⟨_, (decide (a1 ≥ 64)), (by first | rfl | (simp; done) | (simp [*]; done) | (have e_ : ∀ l : List UInt8, (l != []) = !l.isEmpty := (fun l => by cases l <;> rfl); simp [e_]; done)), H', ⟨by first | omega | exact Nat.le_refl _⟩, ⟨by (with_reducible repeat (first | refine blk_drewN ?_ _ | refine blk_drew ?_ | refine blk_alloc ?_ _)); exact BK170.out⟩, ⟨by repeat (first | (with_reducible first | exact HB.out | apply below_alloc | apply pw_below_drewN | apply below_drew1 | refine below_set ?_ GE170.out) | exact HB.out)⟩⟩
  case rest =>
    clear HC4
    try clear c1
    try clear p2
    try clear c7
    try clear c7b0
    try clear c9
    try clear c9b0
    try clear hcz10_0
    try clear hcz10_1
    try clear hcz10_2
    try clear hcz11_0
    try clear hcz11_1
    try clear hcz11_2
    try clear hcz6_0
    try clear hcz6_1
    try clear hcz6_2
    try clear hcz8_0
    try clear hcz8_1
    try clear hcz8_2
    try clear hfz10_0
    try clear hfz10_1
    try clear hfz10_2
    try clear hfz11_0
    try clear hfz11_1
    try clear hfz11_2
    try clear hfz6_0
    try clear hfz6_1
    try clear hfz6_2
    try clear hfz8_0
    try clear hfz8_1
    try clear hfz8_2
    obtain ⟨kq, x8_3, rfl, HA, HJ3, BK170, HB⟩ := hcut
    cases kq with
    | zero => exact absurd HA.out (by simp [saplingref12_Parts.j0])
    | succ kj3 =>
      have H := HA.out
      clear HA
      simp only [saplingref12_Parts.j0] at H
      have HC12 := Aside0.mk H
      clear H
      go_upto_region 3 with (fail)
      go_cut [8] (fun v8 wc => ∃ (kq : Nat) (x8_11 : Bool), v8 = .bool x8_11 ∧ Aside0 (saplingref12_Parts.j1 kq a1 a2 (l0_2.length : Int) x8_11 a0_0 a0_1 l0_2 = some r) ∧ Aside0 (kq ≤ kj3) ∧ Aside0 (wc.heap[gb170]? = some (.cells #[.int .i64 a0_0, .string a0_1, (.slice A0_2 l0_2.length c0_2)] 84 (0, 0))) ∧ Aside0 (Below w.heap.size w wc))
      case first =>
        have H := HC12.out
        clear HC12
        by_cases c13 : x8_3 = true
        · subst c13
          have H1 : (saplingref12_Parts.j1 kj3 a1 a2 (l0_2.length : Int) true a0_0 a0_1 l0_2) = some r := by rw [if_pos rfl] at H; exact H
          clear H
          have H := H1
          clear H1
          have H' := Aside0.mk H
          clear H
          go_wp2
          go_meet
          case rel => exact ⟨_, (true), (by first | rfl | (simp; done) | (simp [*]; done) | (have e_ : ∀ l : List UInt8, (l != []) = !l.isEmpty := (fun l => by cases l <;> rfl); simp [e_]; done)), H', ⟨by have := HJ3.out; first | omega | exact Nat.le_refl _⟩, ⟨by (with_reducible repeat (first | refine blk_drewN ?_ _ | refine blk_drew ?_ | refine blk_alloc ?_ _)); exact BK170.out⟩, ⟨by repeat (first | (with_reducible first | exact HB.out | apply below_alloc | apply pw_below_drewN | apply below_drew1 | refine below_set ?_ GE170.out) | exact HB.out)⟩⟩
        · replace c13 := Bool.eq_false_iff.mpr c13
          subst c13
          have H1 : (if a0_0 = 2 then ((saplingref12_Name.f kj3 a0_1).bind fun t171 => (saplingref12_Parts.j1 kj3 a1 a2 (l0_2.length : Int) (!t171) a0_0 a0_1 l0_2)) else (if a0_0 = 5 then ((saplingref12_Name.f kj3 a0_1).bind fun t172 => (saplingref12_Parts.j1 kj3 a1 a2 (l0_2.length : Int) (!t172) a0_0 a0_1 l0_2)) else (saplingref12_Parts.j1 kj3 a1 a2 (l0_2.length : Int) false a0_0 a0_1 l0_2))) = some r := by rw [if_neg (show ¬ (false = true) by decide)] at H; exact H
          clear H
          have H := H1
          clear H1
          by_cases c14 : a0_0 = 2
          · rw [if_pos c14] at H
            have c14b0 : (a0_0 == 2) = true := beq_iff_eq.mpr c14
            have c14b1 : (a0_0 != 2) = false := bne_eq_false_iff_eq.mpr c14
            clear c14
            (first | rw [c14b0] | (simp only [i64_w, i32_w]; rw [c14b0]) | skip)
            replace H := Option.bind_eq_some_iff.mp H
            obtain ⟨t171, A150, H⟩ := H
            replace H : (saplingref12_Parts.j1 kj3 a1 a2 (l0_2.length : Int) (!t171) a0_0 a0_1 l0_2) = some r := H
            have A15 := Aside0.mk A150
            clear A150
            have H' := Aside0.mk H
            clear H
            have hcz16_0 : wc.cell? ⟨gb170, 0, none⟩ = some (.int .i64 a0_0) := (blk_cell BK170.out 0).trans rfl
            have hcz16_1 : wc.cell? ⟨gb170, 1, none⟩ = some (.string a0_1) := (blk_cell BK170.out 1).trans rfl
            have hcz16_2 : wc.cell? ⟨gb170, 2, none⟩ = some (.slice A0_2 l0_2.length c0_2) := (blk_cell BK170.out 2).trans rfl
            have hfz16_0 := blk_frozen BK170.out 0
            have hfz16_1 := blk_frozen BK170.out 1
            have hfz16_2 := blk_frozen BK170.out 2
            go_wp2_with (first | (go_at_call 173; (with_reducible refine (saplingref12_Name.calls kj3 a0_1 t171 _ A15.out).mono ?_); rintro e w17 ⟨rfl, hb⟩; have n0_ := Aside0.mk (blk_below (g := gb170) (o := .cells #[.int .i64 a0_0, .string a0_1, .slice A0_2 l0_2.length c0_2] 84 (0, 0)) (by (with_reducible repeat (first | refine blk_drewN ?_ _ | refine blk_drew ?_ | refine blk_alloc ?_ _)); exact BK170.out) hb); have n1_ := Aside0.mk (below_step (by repeat (first | (with_reducible first | exact HB.out | apply below_alloc | apply pw_below_drewN | apply below_drew1 | refine below_set ?_ GE170.out) | exact HB.out)) hb); clear BK170; clear HB; have BK170 := n0_; have HB := n1_; clear n0_ n1_; (try clear hb); (try clear hb2); (try clear hk); (try clear hi)))
            go_meet
            case rel => exact ⟨_, (!t171), (by first | rfl | (simp; done) | (simp [*]; done) | (have e_ : ∀ l : List UInt8, (l != []) = !l.isEmpty := (fun l => by cases l <;> rfl); simp [e_]; done)), H', ⟨by have := HJ3.out; first | omega | exact Nat.le_refl _⟩, ⟨by (with_reducible repeat (first | refine blk_drewN ?_ _ | refine blk_drew ?_ | refine blk_alloc ?_ _)); exact BK170.out⟩, ⟨by repeat (first | (with_reducible first | exact HB.out | apply below_alloc | apply pw_below_drewN | apply below_drew1 | refine below_set ?_ GE170.out) | exact HB.out)⟩⟩
          · rw [if_neg c14] at H
            have c14b0 : (a0_0 == 2) = false := beq_eq_false_iff_ne.mpr c14
            have c14b1 : (a0_0 != 2) = true := bne_iff_ne.mpr c14
            (first | rw [c14b0] | (simp only [i64_w, i32_w]; rw [c14b0]) | skip)
            by_cases c18 : a0_0 = 5
            · rw [if_pos c18] at H
              have c18b0 : (a0_0 == 5) = true := beq_iff_eq.mpr c18
              have c18b1 : (a0_0 != 5) = false := bne_eq_false_iff_eq.mpr c18
              clear c18
              replace H := Option.bind_eq_some_iff.mp H
              obtain ⟨t172, A190, H⟩ := H
              replace H : (saplingref12_Parts.j1 kj3 a1 a2 (l0_2.length : Int) (!t172) a0_0 a0_1 l0_2) = some r := H
              have A19 := Aside0.mk A190
              clear A190
              have H' := Aside0.mk H
              clear H
              have hcz20_0 : wc.cell? ⟨gb170, 0, none⟩ = some (.int .i64 a0_0) := (blk_cell BK170.out 0).trans rfl
              have hcz20_1 : wc.cell? ⟨gb170, 1, none⟩ = some (.string a0_1) := (blk_cell BK170.out 1).trans rfl
              have hcz20_2 : wc.cell? ⟨gb170, 2, none⟩ = some (.slice A0_2 l0_2.length c0_2) := (blk_cell BK170.out 2).trans rfl
              have hfz20_0 := blk_frozen BK170.out 0
              have hfz20_1 := blk_frozen BK170.out 1
              have hfz20_2 := blk_frozen BK170.out 2
              go_wp2_with (first | (go_at_call 173; (with_reducible refine (saplingref12_Name.calls kj3 a0_1 t172 _ A19.out).mono ?_); rintro e w21 ⟨rfl, hb⟩; have n0_ := Aside0.mk (blk_below (g := gb170) (o := .cells #[.int .i64 a0_0, .string a0_1, .slice A0_2 l0_2.length c0_2] 84 (0, 0)) (by (with_reducible repeat (first | refine blk_drewN ?_ _ | refine blk_drew ?_ | refine blk_alloc ?_ _)); exact BK170.out) hb); have n1_ := Aside0.mk (below_step (by repeat (first | (with_reducible first | exact HB.out | apply below_alloc | apply pw_below_drewN | apply below_drew1 | refine below_set ?_ GE170.out) | exact HB.out)) hb); clear BK170; clear HB; have BK170 := n0_; have HB := n1_; clear n0_ n1_; (try clear hb); (try clear hb2); (try clear hk); (try clear hi)))
              go_meet
              case rel => exact ⟨_, (!t172), (by first | rfl | (simp; done) | (simp [*]; done) | (have e_ : ∀ l : List UInt8, (l != []) = !l.isEmpty := (fun l => by cases l <;> rfl); simp [e_]; done)), H', ⟨by have := HJ3.out; first | omega | exact Nat.le_refl _⟩, ⟨by (with_reducible repeat (first | refine blk_drewN ?_ _ | refine blk_drew ?_ | refine blk_alloc ?_ _)); exact BK170.out⟩, ⟨by repeat (first | (with_reducible first | exact HB.out | apply below_alloc | apply pw_below_drewN | apply below_drew1 | refine below_set ?_ GE170.out) | exact HB.out)⟩⟩
            · rw [if_neg c18] at H
              have c18b0 : (a0_0 == 5) = false := beq_eq_false_iff_ne.mpr c18
              have c18b1 : (a0_0 != 5) = true := bne_iff_ne.mpr c18
              have H' := Aside0.mk H
              clear H
              have hcz22_0 : wc.cell? ⟨gb170, 0, none⟩ = some (.int .i64 a0_0) := (blk_cell BK170.out 0).trans rfl
              have hcz22_1 : wc.cell? ⟨gb170, 1, none⟩ = some (.string a0_1) := (blk_cell BK170.out 1).trans rfl
              have hcz22_2 : wc.cell? ⟨gb170, 2, none⟩ = some (.slice A0_2 l0_2.length c0_2) := (blk_cell BK170.out 2).trans rfl
              have hfz22_0 := blk_frozen BK170.out 0
              have hfz22_1 := blk_frozen BK170.out 1
              have hfz22_2 := blk_frozen BK170.out 2
              go_wp2
              go_meet
              case rel => exact ⟨_, (false), (by first | rfl | (simp; done) | (simp [*]; done) | (have e_ : ∀ l : List UInt8, (l != []) = !l.isEmpty := (fun l => by cases l <;> rfl); simp [e_]; done)), H', ⟨by have := HJ3.out; first | omega | exact Nat.le_refl _⟩, ⟨by (with_reducible repeat (first | refine blk_drewN ?_ _ | refine blk_drew ?_ | refine blk_alloc ?_ _)); exact BK170.out⟩, ⟨by repeat (first | (with_reducible first | exact HB.out | apply below_alloc | apply pw_below_drewN | apply below_drew1 | refine below_set ?_ GE170.out) | exact HB.out)⟩⟩
      case rest =>
        clear HC12
        try clear c1
        try clear p2
        try clear c7
        try clear c7b0
        try clear c9
        try clear c9b0
        try clear c13
        try clear c14
        try clear c14b0
        try clear c14b1
        try clear c18
        try clear c18b0
        try clear c18b1
        try clear hcz10_0
        try clear hcz10_1
        try clear hcz10_2
        try clear hcz11_0
        try clear hcz11_1
        try clear hcz11_2
        try clear hcz16_0
        try clear hcz16_1
        try clear hcz16_2
        try clear hcz20_0
        try clear hcz20_1
        try clear hcz20_2
        try clear hcz22_0
        try clear hcz22_1
        try clear hcz22_2
        try clear hcz6_0
        try clear hcz6_1
        try clear hcz6_2
        try clear hcz8_0
        try clear hcz8_1
        try clear hcz8_2
        try clear hfz10_0
        try clear hfz10_1
        try clear hfz10_2
        try clear hfz11_0
        try clear hfz11_1
        try clear hfz11_2
        try clear hfz16_0
        try clear hfz16_1
        try clear hfz16_2
        try clear hfz20_0
        try clear hfz20_1
        try clear hfz20_2
        try clear hfz22_0
        try clear hfz22_1
        try clear hfz22_2
        try clear hfz6_0
        try clear hfz6_1
        try clear hfz6_2
        try clear hfz8_0
        try clear hfz8_1
        try clear hfz8_2
        try clear p2
        obtain ⟨kq, x8_11, rfl, HA, HJ11, BK170, HB⟩ := hcut
        cases kq with
        | zero => exact absurd HA.out (by simp [saplingref12_Parts.j1])
        | succ kj11 =>
          have H := HA.out
          clear HA
          simp only [saplingref12_Parts.j1] at H
          have HC23 := Aside0.mk H
          clear H
          go_upto_region 4 with (fail)
          go_cut [8] (fun v8 wc => ∃ (kq : Nat) (x8_22 : Bool), v8 = .bool x8_22 ∧ Aside0 (saplingref12_Parts.j2 kq a1 a2 (l0_2.length : Int) x8_22 a0_0 a0_1 l0_2 = some r) ∧ Aside0 (kq ≤ kj11) ∧ Aside0 (wc.heap[gb170]? = some (.cells #[.int .i64 a0_0, .string a0_1, (.slice A0_2 l0_2.length c0_2)] 84 (0, 0))) ∧ Aside0 (Below w.heap.size w wc))
          case first =>
            have H := HC23.out
            clear HC23
            by_cases c24 : x8_11 = true
            · subst c24
              have H1 : (saplingref12_Parts.j2 kj11 a1 a2 (l0_2.length : Int) true a0_0 a0_1 l0_2) = some r := by rw [if_pos rfl] at H; exact H
              clear H
              have H := H1
              clear H1
              have H' := Aside0.mk H
              clear H
              go_wp2
              go_meet
              case rel => exact ⟨_, (true), (by first | rfl | (simp; done) | (simp [*]; done) | (have e_ : ∀ l : List UInt8, (l != []) = !l.isEmpty := (fun l => by cases l <;> rfl); simp [e_]; done)), H', ⟨by have := HJ3.out; have := HJ11.out; first | omega | exact Nat.le_refl _⟩, ⟨by (with_reducible repeat (first | refine blk_drewN ?_ _ | refine blk_drew ?_ | refine blk_alloc ?_ _)); exact BK170.out⟩, ⟨by repeat (first | (with_reducible first | exact HB.out | apply below_alloc | apply pw_below_drewN | apply below_drew1 | refine below_set ?_ GE170.out) | exact HB.out)⟩⟩
            · replace c24 := Bool.eq_false_iff.mpr c24
              subst c24
              have H1 : (if a0_0 = 3 then (saplingref12_Parts.j2 kj11 a1 a2 (l0_2.length : Int) (a0_1.toList != ([] : List UInt8)) a0_0 a0_1 l0_2) else (if a0_0 = 4 then (saplingref12_Parts.j2 kj11 a1 a2 (l0_2.length : Int) (a0_1.toList != ([] : List UInt8)) a0_0 a0_1 l0_2) else (saplingref12_Parts.j2 kj11 a1 a2 (l0_2.length : Int) false a0_0 a0_1 l0_2))) = some r := by rw [if_neg (show ¬ (false = true) by decide)] at H; exact H
              clear H
              have H := H1
              clear H1
              by_cases c25 : a0_0 = 3
              · rw [if_pos c25] at H
                have c25b0 : (a0_0 == 3) = true := beq_iff_eq.mpr c25
                have c25b1 : (a0_0 != 3) = false := bne_eq_false_iff_eq.mpr c25
                clear c25
                (first | rw [c25b0] | (simp only [i64_w, i32_w]; rw [c25b0]) | skip)
                have H' := Aside0.mk H
                clear H
                have hcz26_0 : wc.cell? ⟨gb170, 0, none⟩ = some (.int .i64 a0_0) := (blk_cell BK170.out 0).trans rfl
                have hcz26_1 : wc.cell? ⟨gb170, 1, none⟩ = some (.string a0_1) := (blk_cell BK170.out 1).trans rfl
                have hcz26_2 : wc.cell? ⟨gb170, 2, none⟩ = some (.slice A0_2 l0_2.length c0_2) := (blk_cell BK170.out 2).trans rfl
                have hfz26_0 := blk_frozen BK170.out 0
                have hfz26_1 := blk_frozen BK170.out 1
                have hfz26_2 := blk_frozen BK170.out 2
                go_wp2
                go_meet
                case rel => exact ⟨_, ((a0_1.toList != ([] : List UInt8))), (by first | rfl | (simp; done) | (simp [*]; done) | (have e_ : ∀ l : List UInt8, (l != []) = !l.isEmpty := (fun l => by cases l <;> rfl); simp [e_]; done)), H', ⟨by have := HJ3.out; have := HJ11.out; first | omega | exact Nat.le_refl _⟩, ⟨by (with_reducible repeat (first | refine blk_drewN ?_ _ | refine blk_drew ?_ | refine blk_alloc ?_ _)); exact BK170.out⟩, ⟨by repeat (first | (with_reducible first | exact HB.out | apply below_alloc | apply pw_below_drewN | apply below_drew1 | refine below_set ?_ GE170.out) | exact HB.out)⟩⟩
              · rw [if_neg c25] at H
                have c25b0 : (a0_0 == 3) = false := beq_eq_false_iff_ne.mpr c25
                have c25b1 : (a0_0 != 3) = true := bne_iff_ne.mpr c25
                (first | rw [c25b0] | (simp only [i64_w, i32_w]; rw [c25b0]) | skip)
                by_cases c27 : a0_0 = 4
                · rw [if_pos c27] at H
                  have c27b0 : (a0_0 == 4) = true := beq_iff_eq.mpr c27
                  have c27b1 : (a0_0 != 4) = false := bne_eq_false_iff_eq.mpr c27
                  clear c27
                  have H' := Aside0.mk H
                  clear H
                  have hcz28_0 : wc.cell? ⟨gb170, 0, none⟩ = some (.int .i64 a0_0) := (blk_cell BK170.out 0).trans rfl
                  have hcz28_1 : wc.cell? ⟨gb170, 1, none⟩ = some (.string a0_1) := (blk_cell BK170.out 1).trans rfl
                  have hcz28_2 : wc.cell? ⟨gb170, 2, none⟩ = some (.slice A0_2 l0_2.length c0_2) := (blk_cell BK170.out 2).trans rfl
                  have hfz28_0 := blk_frozen BK170.out 0
                  have hfz28_1 := blk_frozen BK170.out 1
                  have hfz28_2 := blk_frozen BK170.out 2
                  go_wp2
                  go_meet
                  case rel => exact ⟨_, ((a0_1.toList != ([] : List UInt8))), (by first | rfl | (simp; done) | (simp [*]; done) | (have e_ : ∀ l : List UInt8, (l != []) = !l.isEmpty := (fun l => by cases l <;> rfl); simp [e_]; done)), H', ⟨by have := HJ3.out; have := HJ11.out; first | omega | exact Nat.le_refl _⟩, ⟨by (with_reducible repeat (first | refine blk_drewN ?_ _ | refine blk_drew ?_ | refine blk_alloc ?_ _)); exact BK170.out⟩, ⟨by repeat (first | (with_reducible first | exact HB.out | apply below_alloc | apply pw_below_drewN | apply below_drew1 | refine below_set ?_ GE170.out) | exact HB.out)⟩⟩
                · rw [if_neg c27] at H
                  have c27b0 : (a0_0 == 4) = false := beq_eq_false_iff_ne.mpr c27
                  have c27b1 : (a0_0 != 4) = true := bne_iff_ne.mpr c27
                  have H' := Aside0.mk H
                  clear H
                  have hcz29_0 : wc.cell? ⟨gb170, 0, none⟩ = some (.int .i64 a0_0) := (blk_cell BK170.out 0).trans rfl
                  have hcz29_1 : wc.cell? ⟨gb170, 1, none⟩ = some (.string a0_1) := (blk_cell BK170.out 1).trans rfl
                  have hcz29_2 : wc.cell? ⟨gb170, 2, none⟩ = some (.slice A0_2 l0_2.length c0_2) := (blk_cell BK170.out 2).trans rfl
                  have hfz29_0 := blk_frozen BK170.out 0
                  have hfz29_1 := blk_frozen BK170.out 1
                  have hfz29_2 := blk_frozen BK170.out 2
                  go_wp2
                  go_meet
                  case rel => exact ⟨_, (false), (by first | rfl | (simp; done) | (simp [*]; done) | (have e_ : ∀ l : List UInt8, (l != []) = !l.isEmpty := (fun l => by cases l <;> rfl); simp [e_]; done)), H', ⟨by have := HJ3.out; have := HJ11.out; first | omega | exact Nat.le_refl _⟩, ⟨by (with_reducible repeat (first | refine blk_drewN ?_ _ | refine blk_drew ?_ | refine blk_alloc ?_ _)); exact BK170.out⟩, ⟨by repeat (first | (with_reducible first | exact HB.out | apply below_alloc | apply pw_below_drewN | apply below_drew1 | refine below_set ?_ GE170.out) | exact HB.out)⟩⟩
          case rest =>
            clear HC23
            try clear c1
            try clear c2
            try clear p2
            try clear c7
            try clear c7b0
            try clear c9
            try clear c9b0
            try clear c13
            try clear c14
            try clear c14b0
            try clear c14b1
            try clear c18
            try clear c18b0
            try clear c18b1
            try clear c24
            try clear c25
            try clear c25b0
            try clear c25b1
            try clear c27
            try clear c27b0
            try clear c27b1
            try clear hcz10_0
            try clear hcz10_1
            try clear hcz10_2
            try clear hcz11_0
            try clear hcz11_1
            try clear hcz11_2
            try clear hcz16_0
            try clear hcz16_1
            try clear hcz16_2
            try clear hcz20_0
            try clear hcz20_1
            try clear hcz20_2
            try clear hcz22_0
            try clear hcz22_1
            try clear hcz22_2
            try clear hcz26_0
            try clear hcz26_1
            try clear hcz26_2
            try clear hcz28_0
            try clear hcz28_1
            try clear hcz28_2
            try clear hcz29_0
            try clear hcz29_1
            try clear hcz29_2
            try clear hcz6_0
            try clear hcz6_1
            try clear hcz6_2
            try clear hcz8_0
            try clear hcz8_1
            try clear hcz8_2
            try clear hfz10_0
            try clear hfz10_1
            try clear hfz10_2
            try clear hfz11_0
            try clear hfz11_1
            try clear hfz11_2
            try clear hfz16_0
            try clear hfz16_1
            try clear hfz16_2
            try clear hfz20_0
            try clear hfz20_1
            try clear hfz20_2
            try clear hfz22_0
            try clear hfz22_1
            try clear hfz22_2
            try clear hfz26_0
            try clear hfz26_1
            try clear hfz26_2
            try clear hfz28_0
            try clear hfz28_1
            try clear hfz28_2
            try clear hfz29_0
            try clear hfz29_1
            try clear hfz29_2
            try clear hfz6_0
            try clear hfz6_1
            try clear hfz6_2
            try clear hfz8_0
            try clear hfz8_1
            try clear hfz8_2
            try clear p2
            obtain ⟨kq, x8_22, rfl, HA, HJ22, BK170, HB⟩ := hcut
            cases kq with
            | zero => exact absurd HA.out (by simp [saplingref12_Parts.j2])
            | succ kj22 =>
              have H := HA.out
              clear HA
              simp only [saplingref12_Parts.j2] at H
              have HC30 := Aside0.mk H
              clear H
              go_upto_region 5 with (fail)
              go_cut [8] (fun v8 wc => ∃ (kq : Nat) (x8_29 : Bool), v8 = .bool x8_29 ∧ Aside0 (saplingref12_Parts.j3 kq a1 a2 (l0_2.length : Int) x8_29 a0_0 a0_1 l0_2 = some r) ∧ Aside0 (kq ≤ kj22) ∧ Aside0 (wc.heap[gb170]? = some (.cells #[.int .i64 a0_0, .string a0_1, (.slice A0_2 l0_2.length c0_2)] 84 (0, 0))) ∧ Aside0 (Below w.heap.size w wc))
              case first =>
                have H := HC30.out
                clear HC30
                by_cases c31 : x8_22 = true
                · subst c31
                  have H1 : (saplingref12_Parts.j3 kj22 a1 a2 (l0_2.length : Int) true a0_0 a0_1 l0_2) = some r := by rw [if_pos rfl] at H; exact H
                  clear H
                  have H := H1
                  clear H1
                  have H' := Aside0.mk H
                  clear H
                  go_wp2
                  go_meet
                  case rel => exact ⟨_, (true), (by first | rfl | (simp; done) | (simp [*]; done) | (have e_ : ∀ l : List UInt8, (l != []) = !l.isEmpty := (fun l => by cases l <;> rfl); simp [e_]; done)), H', ⟨by have := HJ3.out; have := HJ11.out; have := HJ22.out; first | omega | exact Nat.le_refl _⟩, ⟨by (with_reducible repeat (first | refine blk_drewN ?_ _ | refine blk_drew ?_ | refine blk_alloc ?_ _)); exact BK170.out⟩, ⟨by repeat (first | (with_reducible first | exact HB.out | apply below_alloc | apply pw_below_drewN | apply below_drew1 | refine below_set ?_ GE170.out) | exact HB.out)⟩⟩
                · replace c31 := Bool.eq_false_iff.mpr c31
                  subst c31
                  have H1 : (if a0_0 ≤ 2 then (if (l0_2.length : Int) > 0 then (saplingref12_Parts.j3 kj22 a1 a2 (l0_2.length : Int) true a0_0 a0_1 l0_2) else (if a0_0 = 3 then (if (l0_2.length : Int) < 2 then (saplingref12_Parts.j3 kj22 a1 a2 (l0_2.length : Int) true a0_0 a0_1 l0_2) else (if a0_0 = 4 then (if (l0_2.length : Int) = 4 then (if a0_0 = 5 then (saplingref12_Parts.j3 kj22 a1 a2 (l0_2.length : Int) ((l0_2.length : Int) != 2) a0_0 a0_1 l0_2) else (saplingref12_Parts.j3 kj22 a1 a2 (l0_2.length : Int) false a0_0 a0_1 l0_2)) else (saplingref12_Parts.j3 kj22 a1 a2 (l0_2.length : Int) true a0_0 a0_1 l0_2)) else (if a0_0 = 5 then (saplingref12_Parts.j3 kj22 a1 a2 (l0_2.length : Int) ((l0_2.length : Int) != 2) a0_0 a0_1 l0_2) else (saplingref12_Parts.j3 kj22 a1 a2 (l0_2.length : Int) false a0_0 a0_1 l0_2)))) else (if a0_0 = 4 then (if (l0_2.length : Int) = 4 then (if a0_0 = 5 then (saplingref12_Parts.j3 kj22 a1 a2 (l0_2.length : Int) ((l0_2.length : Int) != 2) a0_0 a0_1 l0_2) else (saplingref12_Parts.j3 kj22 a1 a2 (l0_2.length : Int) false a0_0 a0_1 l0_2)) else (saplingref12_Parts.j3 kj22 a1 a2 (l0_2.length : Int) true a0_0 a0_1 l0_2)) else (if a0_0 = 5 then (saplingref12_Parts.j3 kj22 a1 a2 (l0_2.length : Int) ((l0_2.length : Int) != 2) a0_0 a0_1 l0_2) else (saplingref12_Parts.j3 kj22 a1 a2 (l0_2.length : Int) false a0_0 a0_1 l0_2))))) else (if a0_0 = 3 then (if (l0_2.length : Int) < 2 then (saplingref12_Parts.j3 kj22 a1 a2 (l0_2.length : Int) true a0_0 a0_1 l0_2) else (if a0_0 = 4 then (if (l0_2.length : Int) = 4 then (if a0_0 = 5 then (saplingref12_Parts.j3 kj22 a1 a2 (l0_2.length : Int) ((l0_2.length : Int) != 2) a0_0 a0_1 l0_2) else (saplingref12_Parts.j3 kj22 a1 a2 (l0_2.length : Int) false a0_0 a0_1 l0_2)) else (saplingref12_Parts.j3 kj22 a1 a2 (l0_2.length : Int) true a0_0 a0_1 l0_2)) else (if a0_0 = 5 then (saplingref12_Parts.j3 kj22 a1 a2 (l0_2.length : Int) ((l0_2.length : Int) != 2) a0_0 a0_1 l0_2) else (saplingref12_Parts.j3 kj22 a1 a2 (l0_2.length : Int) false a0_0 a0_1 l0_2)))) else (if a0_0 = 4 then (if (l0_2.length : Int) = 4 then (if a0_0 = 5 then (saplingref12_Parts.j3 kj22 a1 a2 (l0_2.length : Int) ((l0_2.length : Int) != 2) a0_0 a0_1 l0_2) else (saplingref12_Parts.j3 kj22 a1 a2 (l0_2.length : Int) false a0_0 a0_1 l0_2)) else (saplingref12_Parts.j3 kj22 a1 a2 (l0_2.length : Int) true a0_0 a0_1 l0_2)) else (if a0_0 = 5 then (saplingref12_Parts.j3 kj22 a1 a2 (l0_2.length : Int) ((l0_2.length : Int) != 2) a0_0 a0_1 l0_2) else (saplingref12_Parts.j3 kj22 a1 a2 (l0_2.length : Int) false a0_0 a0_1 l0_2))))) = some r := by rw [if_neg (show ¬ (false = true) by decide)] at H; exact H
                  clear H
                  have H := H1
                  clear H1
                  by_cases c32 : a0_0 ≤ 2
                  · rw [if_pos c32] at H
                    have c32b0 : decide (a0_0 ≤ 2) = true := decide_eq_true c32
                    clear c32
                    (first | rw [c32b0] | (simp only [i64_w, i32_w]; rw [c32b0]) | skip)
                    by_cases c33 : (l0_2.length : Int) > 0
                    · rw [if_pos c33] at H
                      have c33b0 : decide (0 < (l0_2.length : Int)) = true := decide_eq_true c33
                      have c33b1 : decide (0 < l0_2.length) = true := decide_eq_true (by omega)
                      clear c33
                      have H' := Aside0.mk H
                      clear H
                      have hcz34_0 : wc.cell? ⟨gb170, 0, none⟩ = some (.int .i64 a0_0) := (blk_cell BK170.out 0).trans rfl
                      have hcz34_1 : wc.cell? ⟨gb170, 1, none⟩ = some (.string a0_1) := (blk_cell BK170.out 1).trans rfl
                      have hcz34_2 : wc.cell? ⟨gb170, 2, none⟩ = some (.slice A0_2 l0_2.length c0_2) := (blk_cell BK170.out 2).trans rfl
                      have hfz34_0 := blk_frozen BK170.out 0
                      have hfz34_1 := blk_frozen BK170.out 1
                      have hfz34_2 := blk_frozen BK170.out 2
                      go_wp2
                      go_meet
                      case rel => exact ⟨_, (true), (by first | rfl | (simp; done) | (simp [*]; done) | (have e_ : ∀ l : List UInt8, (l != []) = !l.isEmpty := (fun l => by cases l <;> rfl); simp [e_]; done)), H', ⟨by have := HJ3.out; have := HJ11.out; have := HJ22.out; first | omega | exact Nat.le_refl _⟩, ⟨by (with_reducible repeat (first | refine blk_drewN ?_ _ | refine blk_drew ?_ | refine blk_alloc ?_ _)); exact BK170.out⟩, ⟨by repeat (first | (with_reducible first | exact HB.out | apply below_alloc | apply pw_below_drewN | apply below_drew1 | refine below_set ?_ GE170.out) | exact HB.out)⟩⟩
                    · rw [if_neg c33] at H
                      have c33b0 : decide (0 < (l0_2.length : Int)) = false := decide_eq_false c33
                      have c33b1 : decide (0 < l0_2.length) = false := decide_eq_false (by omega)
                      clear c33
                      by_cases c35 : a0_0 = 3
                      · rw [if_pos c35] at H
                        have c35b0 : (a0_0 == 3) = true := beq_iff_eq.mpr c35
                        have c35b1 : (a0_0 != 3) = false := bne_eq_false_iff_eq.mpr c35
                        clear c35
                        by_cases c36 : (l0_2.length : Int) < 2
                        · rw [if_pos c36] at H
                          have c36b0 : decide ((l0_2.length : Int) < 2) = true := decide_eq_true c36
                          have c36b1 : decide (l0_2.length < 2) = true := decide_eq_true (by omega)
                          clear c36
                          have H' := Aside0.mk H
                          clear H
                          have hcz37_0 : wc.cell? ⟨gb170, 0, none⟩ = some (.int .i64 a0_0) := (blk_cell BK170.out 0).trans rfl
                          have hcz37_1 : wc.cell? ⟨gb170, 1, none⟩ = some (.string a0_1) := (blk_cell BK170.out 1).trans rfl
                          have hcz37_2 : wc.cell? ⟨gb170, 2, none⟩ = some (.slice A0_2 l0_2.length c0_2) := (blk_cell BK170.out 2).trans rfl
                          have hfz37_0 := blk_frozen BK170.out 0
                          have hfz37_1 := blk_frozen BK170.out 1
                          have hfz37_2 := blk_frozen BK170.out 2
                          go_wp2
                          go_meet
                          case rel => exact ⟨_, (true), (by first | rfl | (simp; done) | (simp [*]; done) | (have e_ : ∀ l : List UInt8, (l != []) = !l.isEmpty := (fun l => by cases l <;> rfl); simp [e_]; done)), H', ⟨by have := HJ3.out; have := HJ11.out; have := HJ22.out; first | omega | exact Nat.le_refl _⟩, ⟨by (with_reducible repeat (first | refine blk_drewN ?_ _ | refine blk_drew ?_ | refine blk_alloc ?_ _)); exact BK170.out⟩, ⟨by repeat (first | (with_reducible first | exact HB.out | apply below_alloc | apply pw_below_drewN | apply below_drew1 | refine below_set ?_ GE170.out) | exact HB.out)⟩⟩
                        · rw [if_neg c36] at H
                          have c36b0 : decide ((l0_2.length : Int) < 2) = false := decide_eq_false c36
                          have c36b1 : decide (l0_2.length < 2) = false := decide_eq_false (by omega)
                          clear c36
                          by_cases c38 : a0_0 = 4
                          · rw [if_pos c38] at H
                            have c38b0 : (a0_0 == 4) = true := beq_iff_eq.mpr c38
                            have c38b1 : (a0_0 != 4) = false := bne_eq_false_iff_eq.mpr c38
                            clear c38
                            by_cases c39 : (l0_2.length : Int) = 4
                            · rw [if_pos c39] at H
                              have c39b0 : ((l0_2.length : Int) == 4) = true := beq_iff_eq.mpr c39
                              have c39b1 : ((l0_2.length : Int) != 4) = false := bne_eq_false_iff_eq.mpr c39
                              clear c39
                              by_cases c40 : a0_0 = 5
                              · rw [if_pos c40] at H
                                have c40b0 : (a0_0 == 5) = true := beq_iff_eq.mpr c40
                                have c40b1 : (a0_0 != 5) = false := bne_eq_false_iff_eq.mpr c40
                                clear c40
                                have H' := Aside0.mk H
                                clear H
                                have hcz41_0 : wc.cell? ⟨gb170, 0, none⟩ = some (.int .i64 a0_0) := (blk_cell BK170.out 0).trans rfl
                                have hcz41_1 : wc.cell? ⟨gb170, 1, none⟩ = some (.string a0_1) := (blk_cell BK170.out 1).trans rfl
                                have hcz41_2 : wc.cell? ⟨gb170, 2, none⟩ = some (.slice A0_2 l0_2.length c0_2) := (blk_cell BK170.out 2).trans rfl
                                have hfz41_0 := blk_frozen BK170.out 0
                                have hfz41_1 := blk_frozen BK170.out 1
                                have hfz41_2 := blk_frozen BK170.out 2
                                go_wp2
                                go_meet
                                case rel => exact ⟨_, (((l0_2.length : Int) != 2)), (by first | rfl | (simp; done) | (simp [*]; done) | (have e_ : ∀ l : List UInt8, (l != []) = !l.isEmpty := (fun l => by cases l <;> rfl); simp [e_]; done)), H', ⟨by have := HJ3.out; have := HJ11.out; have := HJ22.out; first | omega | exact Nat.le_refl _⟩, ⟨by (with_reducible repeat (first | refine blk_drewN ?_ _ | refine blk_drew ?_ | refine blk_alloc ?_ _)); exact BK170.out⟩, ⟨by repeat (first | (with_reducible first | exact HB.out | apply below_alloc | apply pw_below_drewN | apply below_drew1 | refine below_set ?_ GE170.out) | exact HB.out)⟩⟩
                              · rw [if_neg c40] at H
                                have c40b0 : (a0_0 == 5) = false := beq_eq_false_iff_ne.mpr c40
                                have c40b1 : (a0_0 != 5) = true := bne_iff_ne.mpr c40
                                have H' := Aside0.mk H
                                clear H
                                have hcz42_0 : wc.cell? ⟨gb170, 0, none⟩ = some (.int .i64 a0_0) := (blk_cell BK170.out 0).trans rfl
                                have hcz42_1 : wc.cell? ⟨gb170, 1, none⟩ = some (.string a0_1) := (blk_cell BK170.out 1).trans rfl
                                have hcz42_2 : wc.cell? ⟨gb170, 2, none⟩ = some (.slice A0_2 l0_2.length c0_2) := (blk_cell BK170.out 2).trans rfl
                                have hfz42_0 := blk_frozen BK170.out 0
                                have hfz42_1 := blk_frozen BK170.out 1
                                have hfz42_2 := blk_frozen BK170.out 2
                                go_wp2
                                go_meet
                                case rel => exact ⟨_, (false), (by first | rfl | (simp; done) | (simp [*]; done) | (have e_ : ∀ l : List UInt8, (l != []) = !l.isEmpty := (fun l => by cases l <;> rfl); simp [e_]; done)), H', ⟨by have := HJ3.out; have := HJ11.out; have := HJ22.out; first | omega | exact Nat.le_refl _⟩, ⟨by (with_reducible repeat (first | refine blk_drewN ?_ _ | refine blk_drew ?_ | refine blk_alloc ?_ _)); exact BK170.out⟩, ⟨by repeat (first | (with_reducible first | exact HB.out | apply below_alloc | apply pw_below_drewN | apply below_drew1 | refine below_set ?_ GE170.out) | exact HB.out)⟩⟩
                            · rw [if_neg c39] at H
                              have c39b0 : ((l0_2.length : Int) == 4) = false := beq_eq_false_iff_ne.mpr c39
                              have c39b1 : ((l0_2.length : Int) != 4) = true := bne_iff_ne.mpr c39
                              have H' := Aside0.mk H
                              clear H
                              have hcz43_0 : wc.cell? ⟨gb170, 0, none⟩ = some (.int .i64 a0_0) := (blk_cell BK170.out 0).trans rfl
                              have hcz43_1 : wc.cell? ⟨gb170, 1, none⟩ = some (.string a0_1) := (blk_cell BK170.out 1).trans rfl
                              have hcz43_2 : wc.cell? ⟨gb170, 2, none⟩ = some (.slice A0_2 l0_2.length c0_2) := (blk_cell BK170.out 2).trans rfl
                              have hfz43_0 := blk_frozen BK170.out 0
                              have hfz43_1 := blk_frozen BK170.out 1
                              have hfz43_2 := blk_frozen BK170.out 2
                              go_wp2
                              go_meet
                              case rel => exact ⟨_, (true), (by first | rfl | (simp; done) | (simp [*]; done) | (have e_ : ∀ l : List UInt8, (l != []) = !l.isEmpty := (fun l => by cases l <;> rfl); simp [e_]; done)), H', ⟨by have := HJ3.out; have := HJ11.out; have := HJ22.out; first | omega | exact Nat.le_refl _⟩, ⟨by (with_reducible repeat (first | refine blk_drewN ?_ _ | refine blk_drew ?_ | refine blk_alloc ?_ _)); exact BK170.out⟩, ⟨by repeat (first | (with_reducible first | exact HB.out | apply below_alloc | apply pw_below_drewN | apply below_drew1 | refine below_set ?_ GE170.out) | exact HB.out)⟩⟩
                          · rw [if_neg c38] at H
                            have c38b0 : (a0_0 == 4) = false := beq_eq_false_iff_ne.mpr c38
                            have c38b1 : (a0_0 != 4) = true := bne_iff_ne.mpr c38
                            by_cases c44 : a0_0 = 5
                            · rw [if_pos c44] at H
                              have c44b0 : (a0_0 == 5) = true := beq_iff_eq.mpr c44
                              have c44b1 : (a0_0 != 5) = false := bne_eq_false_iff_eq.mpr c44
                              clear c44
                              have H' := Aside0.mk H
                              clear H
                              have hcz45_0 : wc.cell? ⟨gb170, 0, none⟩ = some (.int .i64 a0_0) := (blk_cell BK170.out 0).trans rfl
                              have hcz45_1 : wc.cell? ⟨gb170, 1, none⟩ = some (.string a0_1) := (blk_cell BK170.out 1).trans rfl
                              have hcz45_2 : wc.cell? ⟨gb170, 2, none⟩ = some (.slice A0_2 l0_2.length c0_2) := (blk_cell BK170.out 2).trans rfl
                              have hfz45_0 := blk_frozen BK170.out 0
                              have hfz45_1 := blk_frozen BK170.out 1
                              have hfz45_2 := blk_frozen BK170.out 2
                              go_wp2
                              go_meet
                              case rel => exact ⟨_, (((l0_2.length : Int) != 2)), (by first | rfl | (simp; done) | (simp [*]; done) | (have e_ : ∀ l : List UInt8, (l != []) = !l.isEmpty := (fun l => by cases l <;> rfl); simp [e_]; done)), H', ⟨by have := HJ3.out; have := HJ11.out; have := HJ22.out; first | omega | exact Nat.le_refl _⟩, ⟨by (with_reducible repeat (first | refine blk_drewN ?_ _ | refine blk_drew ?_ | refine blk_alloc ?_ _)); exact BK170.out⟩, ⟨by repeat (first | (with_reducible first | exact HB.out | apply below_alloc | apply pw_below_drewN | apply below_drew1 | refine below_set ?_ GE170.out) | exact HB.out)⟩⟩
                            · rw [if_neg c44] at H
                              have c44b0 : (a0_0 == 5) = false := beq_eq_false_iff_ne.mpr c44
                              have c44b1 : (a0_0 != 5) = true := bne_iff_ne.mpr c44
                              have H' := Aside0.mk H
                              clear H
                              have hcz46_0 : wc.cell? ⟨gb170, 0, none⟩ = some (.int .i64 a0_0) := (blk_cell BK170.out 0).trans rfl
                              have hcz46_1 : wc.cell? ⟨gb170, 1, none⟩ = some (.string a0_1) := (blk_cell BK170.out 1).trans rfl
                              have hcz46_2 : wc.cell? ⟨gb170, 2, none⟩ = some (.slice A0_2 l0_2.length c0_2) := (blk_cell BK170.out 2).trans rfl
                              have hfz46_0 := blk_frozen BK170.out 0
                              have hfz46_1 := blk_frozen BK170.out 1
                              have hfz46_2 := blk_frozen BK170.out 2
                              go_wp2
                              go_meet
                              case rel => exact ⟨_, (false), (by first | rfl | (simp; done) | (simp [*]; done) | (have e_ : ∀ l : List UInt8, (l != []) = !l.isEmpty := (fun l => by cases l <;> rfl); simp [e_]; done)), H', ⟨by have := HJ3.out; have := HJ11.out; have := HJ22.out; first | omega | exact Nat.le_refl _⟩, ⟨by (with_reducible repeat (first | refine blk_drewN ?_ _ | refine blk_drew ?_ | refine blk_alloc ?_ _)); exact BK170.out⟩, ⟨by repeat (first | (with_reducible first | exact HB.out | apply below_alloc | apply pw_below_drewN | apply below_drew1 | refine below_set ?_ GE170.out) | exact HB.out)⟩⟩
                      · rw [if_neg c35] at H
                        have c35b0 : (a0_0 == 3) = false := beq_eq_false_iff_ne.mpr c35
                        have c35b1 : (a0_0 != 3) = true := bne_iff_ne.mpr c35
                        by_cases c47 : a0_0 = 4
                        · rw [if_pos c47] at H
                          have c47b0 : (a0_0 == 4) = true := beq_iff_eq.mpr c47
                          have c47b1 : (a0_0 != 4) = false := bne_eq_false_iff_eq.mpr c47
                          clear c47
                          by_cases c48 : (l0_2.length : Int) = 4
                          · rw [if_pos c48] at H
                            have c48b0 : ((l0_2.length : Int) == 4) = true := beq_iff_eq.mpr c48
                            have c48b1 : ((l0_2.length : Int) != 4) = false := bne_eq_false_iff_eq.mpr c48
                            clear c48
                            by_cases c49 : a0_0 = 5
                            · rw [if_pos c49] at H
                              have c49b0 : (a0_0 == 5) = true := beq_iff_eq.mpr c49
                              have c49b1 : (a0_0 != 5) = false := bne_eq_false_iff_eq.mpr c49
                              clear c49
                              have H' := Aside0.mk H
                              clear H
                              have hcz50_0 : wc.cell? ⟨gb170, 0, none⟩ = some (.int .i64 a0_0) := (blk_cell BK170.out 0).trans rfl
                              have hcz50_1 : wc.cell? ⟨gb170, 1, none⟩ = some (.string a0_1) := (blk_cell BK170.out 1).trans rfl
                              have hcz50_2 : wc.cell? ⟨gb170, 2, none⟩ = some (.slice A0_2 l0_2.length c0_2) := (blk_cell BK170.out 2).trans rfl
                              have hfz50_0 := blk_frozen BK170.out 0
                              have hfz50_1 := blk_frozen BK170.out 1
                              have hfz50_2 := blk_frozen BK170.out 2
                              go_wp2
                              go_meet
                              case rel => exact ⟨_, (((l0_2.length : Int) != 2)), (by first | rfl | (simp; done) | (simp [*]; done) | (have e_ : ∀ l : List UInt8, (l != []) = !l.isEmpty := (fun l => by cases l <;> rfl); simp [e_]; done)), H', ⟨by have := HJ3.out; have := HJ11.out; have := HJ22.out; first | omega | exact Nat.le_refl _⟩, ⟨by (with_reducible repeat (first | refine blk_drewN ?_ _ | refine blk_drew ?_ | refine blk_alloc ?_ _)); exact BK170.out⟩, ⟨by repeat (first | (with_reducible first | exact HB.out | apply below_alloc | apply pw_below_drewN | apply below_drew1 | refine below_set ?_ GE170.out) | exact HB.out)⟩⟩
                            · rw [if_neg c49] at H
                              have c49b0 : (a0_0 == 5) = false := beq_eq_false_iff_ne.mpr c49
                              have c49b1 : (a0_0 != 5) = true := bne_iff_ne.mpr c49
                              have H' := Aside0.mk H
                              clear H
                              have hcz51_0 : wc.cell? ⟨gb170, 0, none⟩ = some (.int .i64 a0_0) := (blk_cell BK170.out 0).trans rfl
                              have hcz51_1 : wc.cell? ⟨gb170, 1, none⟩ = some (.string a0_1) := (blk_cell BK170.out 1).trans rfl
                              have hcz51_2 : wc.cell? ⟨gb170, 2, none⟩ = some (.slice A0_2 l0_2.length c0_2) := (blk_cell BK170.out 2).trans rfl
                              have hfz51_0 := blk_frozen BK170.out 0
                              have hfz51_1 := blk_frozen BK170.out 1
                              have hfz51_2 := blk_frozen BK170.out 2
                              go_wp2
                              go_meet
                              case rel => exact ⟨_, (false), (by first | rfl | (simp; done) | (simp [*]; done) | (have e_ : ∀ l : List UInt8, (l != []) = !l.isEmpty := (fun l => by cases l <;> rfl); simp [e_]; done)), H', ⟨by have := HJ3.out; have := HJ11.out; have := HJ22.out; first | omega | exact Nat.le_refl _⟩, ⟨by (with_reducible repeat (first | refine blk_drewN ?_ _ | refine blk_drew ?_ | refine blk_alloc ?_ _)); exact BK170.out⟩, ⟨by repeat (first | (with_reducible first | exact HB.out | apply below_alloc | apply pw_below_drewN | apply below_drew1 | refine below_set ?_ GE170.out) | exact HB.out)⟩⟩
                          · rw [if_neg c48] at H
                            have c48b0 : ((l0_2.length : Int) == 4) = false := beq_eq_false_iff_ne.mpr c48
                            have c48b1 : ((l0_2.length : Int) != 4) = true := bne_iff_ne.mpr c48
                            have H' := Aside0.mk H
                            clear H
                            have hcz52_0 : wc.cell? ⟨gb170, 0, none⟩ = some (.int .i64 a0_0) := (blk_cell BK170.out 0).trans rfl
                            have hcz52_1 : wc.cell? ⟨gb170, 1, none⟩ = some (.string a0_1) := (blk_cell BK170.out 1).trans rfl
                            have hcz52_2 : wc.cell? ⟨gb170, 2, none⟩ = some (.slice A0_2 l0_2.length c0_2) := (blk_cell BK170.out 2).trans rfl
                            have hfz52_0 := blk_frozen BK170.out 0
                            have hfz52_1 := blk_frozen BK170.out 1
                            have hfz52_2 := blk_frozen BK170.out 2
                            go_wp2
                            go_meet
                            case rel => exact ⟨_, (true), (by first | rfl | (simp; done) | (simp [*]; done) | (have e_ : ∀ l : List UInt8, (l != []) = !l.isEmpty := (fun l => by cases l <;> rfl); simp [e_]; done)), H', ⟨by have := HJ3.out; have := HJ11.out; have := HJ22.out; first | omega | exact Nat.le_refl _⟩, ⟨by (with_reducible repeat (first | refine blk_drewN ?_ _ | refine blk_drew ?_ | refine blk_alloc ?_ _)); exact BK170.out⟩, ⟨by repeat (first | (with_reducible first | exact HB.out | apply below_alloc | apply pw_below_drewN | apply below_drew1 | refine below_set ?_ GE170.out) | exact HB.out)⟩⟩
                        · rw [if_neg c47] at H
                          have c47b0 : (a0_0 == 4) = false := beq_eq_false_iff_ne.mpr c47
                          have c47b1 : (a0_0 != 4) = true := bne_iff_ne.mpr c47
                          by_cases c53 : a0_0 = 5
                          · rw [if_pos c53] at H
                            have c53b0 : (a0_0 == 5) = true := beq_iff_eq.mpr c53
                            have c53b1 : (a0_0 != 5) = false := bne_eq_false_iff_eq.mpr c53
                            clear c53
                            have H' := Aside0.mk H
                            clear H
                            have hcz54_0 : wc.cell? ⟨gb170, 0, none⟩ = some (.int .i64 a0_0) := (blk_cell BK170.out 0).trans rfl
                            have hcz54_1 : wc.cell? ⟨gb170, 1, none⟩ = some (.string a0_1) := (blk_cell BK170.out 1).trans rfl
                            have hcz54_2 : wc.cell? ⟨gb170, 2, none⟩ = some (.slice A0_2 l0_2.length c0_2) := (blk_cell BK170.out 2).trans rfl
                            have hfz54_0 := blk_frozen BK170.out 0
                            have hfz54_1 := blk_frozen BK170.out 1
                            have hfz54_2 := blk_frozen BK170.out 2
                            go_wp2
                            go_meet
                            case rel => exact ⟨_, (((l0_2.length : Int) != 2)), (by first | rfl | (simp; done) | (simp [*]; done) | (have e_ : ∀ l : List UInt8, (l != []) = !l.isEmpty := (fun l => by cases l <;> rfl); simp [e_]; done)), H', ⟨by have := HJ3.out; have := HJ11.out; have := HJ22.out; first | omega | exact Nat.le_refl _⟩, ⟨by (with_reducible repeat (first | refine blk_drewN ?_ _ | refine blk_drew ?_ | refine blk_alloc ?_ _)); exact BK170.out⟩, ⟨by repeat (first | (with_reducible first | exact HB.out | apply below_alloc | apply pw_below_drewN | apply below_drew1 | refine below_set ?_ GE170.out) | exact HB.out)⟩⟩
                          · rw [if_neg c53] at H
                            have c53b0 : (a0_0 == 5) = false := beq_eq_false_iff_ne.mpr c53
                            have c53b1 : (a0_0 != 5) = true := bne_iff_ne.mpr c53
                            have H' := Aside0.mk H
                            clear H
                            have hcz55_0 : wc.cell? ⟨gb170, 0, none⟩ = some (.int .i64 a0_0) := (blk_cell BK170.out 0).trans rfl
                            have hcz55_1 : wc.cell? ⟨gb170, 1, none⟩ = some (.string a0_1) := (blk_cell BK170.out 1).trans rfl
                            have hcz55_2 : wc.cell? ⟨gb170, 2, none⟩ = some (.slice A0_2 l0_2.length c0_2) := (blk_cell BK170.out 2).trans rfl
                            have hfz55_0 := blk_frozen BK170.out 0
                            have hfz55_1 := blk_frozen BK170.out 1
                            have hfz55_2 := blk_frozen BK170.out 2
                            go_wp2
                            go_meet
                            case rel => exact ⟨_, (false), (by first | rfl | (simp; done) | (simp [*]; done) | (have e_ : ∀ l : List UInt8, (l != []) = !l.isEmpty := (fun l => by cases l <;> rfl); simp [e_]; done)), H', ⟨by have := HJ3.out; have := HJ11.out; have := HJ22.out; first | omega | exact Nat.le_refl _⟩, ⟨by (with_reducible repeat (first | refine blk_drewN ?_ _ | refine blk_drew ?_ | refine blk_alloc ?_ _)); exact BK170.out⟩, ⟨by repeat (first | (with_reducible first | exact HB.out | apply below_alloc | apply pw_below_drewN | apply below_drew1 | refine below_set ?_ GE170.out) | exact HB.out)⟩⟩
                  · rw [if_neg c32] at H
                    have c32b0 : decide (a0_0 ≤ 2) = false := decide_eq_false c32
                    clear c32
                    (first | rw [c32b0] | (simp only [i64_w, i32_w]; rw [c32b0]) | skip)
                    by_cases c56 : a0_0 = 3
                    · rw [if_pos c56] at H
                      have c56b0 : (a0_0 == 3) = true := beq_iff_eq.mpr c56
                      have c56b1 : (a0_0 != 3) = false := bne_eq_false_iff_eq.mpr c56
                      clear c56
                      by_cases c57 : (l0_2.length : Int) < 2
                      · rw [if_pos c57] at H
                        have c57b0 : decide ((l0_2.length : Int) < 2) = true := decide_eq_true c57
                        have c57b1 : decide (l0_2.length < 2) = true := decide_eq_true (by omega)
                        clear c57
                        have H' := Aside0.mk H
                        clear H
                        have hcz58_0 : wc.cell? ⟨gb170, 0, none⟩ = some (.int .i64 a0_0) := (blk_cell BK170.out 0).trans rfl
                        have hcz58_1 : wc.cell? ⟨gb170, 1, none⟩ = some (.string a0_1) := (blk_cell BK170.out 1).trans rfl
                        have hcz58_2 : wc.cell? ⟨gb170, 2, none⟩ = some (.slice A0_2 l0_2.length c0_2) := (blk_cell BK170.out 2).trans rfl
                        have hfz58_0 := blk_frozen BK170.out 0
                        have hfz58_1 := blk_frozen BK170.out 1
                        have hfz58_2 := blk_frozen BK170.out 2
                        go_wp2
                        go_meet
                        case rel => exact ⟨_, (true), (by first | rfl | (simp; done) | (simp [*]; done) | (have e_ : ∀ l : List UInt8, (l != []) = !l.isEmpty := (fun l => by cases l <;> rfl); simp [e_]; done)), H', ⟨by have := HJ3.out; have := HJ11.out; have := HJ22.out; first | omega | exact Nat.le_refl _⟩, ⟨by (with_reducible repeat (first | refine blk_drewN ?_ _ | refine blk_drew ?_ | refine blk_alloc ?_ _)); exact BK170.out⟩, ⟨by repeat (first | (with_reducible first | exact HB.out | apply below_alloc | apply pw_below_drewN | apply below_drew1 | refine below_set ?_ GE170.out) | exact HB.out)⟩⟩
                      · rw [if_neg c57] at H
                        have c57b0 : decide ((l0_2.length : Int) < 2) = false := decide_eq_false c57
                        have c57b1 : decide (l0_2.length < 2) = false := decide_eq_false (by omega)
                        clear c57
                        by_cases c59 : a0_0 = 4
                        · rw [if_pos c59] at H
                          have c59b0 : (a0_0 == 4) = true := beq_iff_eq.mpr c59
                          have c59b1 : (a0_0 != 4) = false := bne_eq_false_iff_eq.mpr c59
                          clear c59
                          by_cases c60 : (l0_2.length : Int) = 4
                          · rw [if_pos c60] at H
                            have c60b0 : ((l0_2.length : Int) == 4) = true := beq_iff_eq.mpr c60
                            have c60b1 : ((l0_2.length : Int) != 4) = false := bne_eq_false_iff_eq.mpr c60
                            clear c60
                            by_cases c61 : a0_0 = 5
                            · rw [if_pos c61] at H
                              have c61b0 : (a0_0 == 5) = true := beq_iff_eq.mpr c61
                              have c61b1 : (a0_0 != 5) = false := bne_eq_false_iff_eq.mpr c61
                              clear c61
                              have H' := Aside0.mk H
                              clear H
                              have hcz62_0 : wc.cell? ⟨gb170, 0, none⟩ = some (.int .i64 a0_0) := (blk_cell BK170.out 0).trans rfl
                              have hcz62_1 : wc.cell? ⟨gb170, 1, none⟩ = some (.string a0_1) := (blk_cell BK170.out 1).trans rfl
                              have hcz62_2 : wc.cell? ⟨gb170, 2, none⟩ = some (.slice A0_2 l0_2.length c0_2) := (blk_cell BK170.out 2).trans rfl
                              have hfz62_0 := blk_frozen BK170.out 0
                              have hfz62_1 := blk_frozen BK170.out 1
                              have hfz62_2 := blk_frozen BK170.out 2
                              go_wp2
                              go_meet
                              case rel => exact ⟨_, (((l0_2.length : Int) != 2)), (by first | rfl | (simp; done) | (simp [*]; done) | (have e_ : ∀ l : List UInt8, (l != []) = !l.isEmpty := (fun l => by cases l <;> rfl); simp [e_]; done)), H', ⟨by have := HJ3.out; have := HJ11.out; have := HJ22.out; first | omega | exact Nat.le_refl _⟩, ⟨by (with_reducible repeat (first | refine blk_drewN ?_ _ | refine blk_drew ?_ | refine blk_alloc ?_ _)); exact BK170.out⟩, ⟨by repeat (first | (with_reducible first | exact HB.out | apply below_alloc | apply pw_below_drewN | apply below_drew1 | refine below_set ?_ GE170.out) | exact HB.out)⟩⟩
                            · rw [if_neg c61] at H
                              have c61b0 : (a0_0 == 5) = false := beq_eq_false_iff_ne.mpr c61
                              have c61b1 : (a0_0 != 5) = true := bne_iff_ne.mpr c61
                              have H' := Aside0.mk H
                              clear H
                              have hcz63_0 : wc.cell? ⟨gb170, 0, none⟩ = some (.int .i64 a0_0) := (blk_cell BK170.out 0).trans rfl
                              have hcz63_1 : wc.cell? ⟨gb170, 1, none⟩ = some (.string a0_1) := (blk_cell BK170.out 1).trans rfl
                              have hcz63_2 : wc.cell? ⟨gb170, 2, none⟩ = some (.slice A0_2 l0_2.length c0_2) := (blk_cell BK170.out 2).trans rfl
                              have hfz63_0 := blk_frozen BK170.out 0
                              have hfz63_1 := blk_frozen BK170.out 1
                              have hfz63_2 := blk_frozen BK170.out 2
                              go_wp2
                              go_meet
                              case rel => exact ⟨_, (false), (by first | rfl | (simp; done) | (simp [*]; done) | (have e_ : ∀ l : List UInt8, (l != []) = !l.isEmpty := (fun l => by cases l <;> rfl); simp [e_]; done)), H', ⟨by have := HJ3.out; have := HJ11.out; have := HJ22.out; first | omega | exact Nat.le_refl _⟩, ⟨by (with_reducible repeat (first | refine blk_drewN ?_ _ | refine blk_drew ?_ | refine blk_alloc ?_ _)); exact BK170.out⟩, ⟨by repeat (first | (with_reducible first | exact HB.out | apply below_alloc | apply pw_below_drewN | apply below_drew1 | refine below_set ?_ GE170.out) | exact HB.out)⟩⟩
                          · rw [if_neg c60] at H
                            have c60b0 : ((l0_2.length : Int) == 4) = false := beq_eq_false_iff_ne.mpr c60
                            have c60b1 : ((l0_2.length : Int) != 4) = true := bne_iff_ne.mpr c60
                            have H' := Aside0.mk H
                            clear H
                            have hcz64_0 : wc.cell? ⟨gb170, 0, none⟩ = some (.int .i64 a0_0) := (blk_cell BK170.out 0).trans rfl
                            have hcz64_1 : wc.cell? ⟨gb170, 1, none⟩ = some (.string a0_1) := (blk_cell BK170.out 1).trans rfl
                            have hcz64_2 : wc.cell? ⟨gb170, 2, none⟩ = some (.slice A0_2 l0_2.length c0_2) := (blk_cell BK170.out 2).trans rfl
                            have hfz64_0 := blk_frozen BK170.out 0
                            have hfz64_1 := blk_frozen BK170.out 1
                            have hfz64_2 := blk_frozen BK170.out 2
                            go_wp2
                            go_meet
                            case rel => exact ⟨_, (true), (by first | rfl | (simp; done) | (simp [*]; done) | (have e_ : ∀ l : List UInt8, (l != []) = !l.isEmpty := (fun l => by cases l <;> rfl); simp [e_]; done)), H', ⟨by have := HJ3.out; have := HJ11.out; have := HJ22.out; first | omega | exact Nat.le_refl _⟩, ⟨by (with_reducible repeat (first | refine blk_drewN ?_ _ | refine blk_drew ?_ | refine blk_alloc ?_ _)); exact BK170.out⟩, ⟨by repeat (first | (with_reducible first | exact HB.out | apply below_alloc | apply pw_below_drewN | apply below_drew1 | refine below_set ?_ GE170.out) | exact HB.out)⟩⟩
                        · rw [if_neg c59] at H
                          have c59b0 : (a0_0 == 4) = false := beq_eq_false_iff_ne.mpr c59
                          have c59b1 : (a0_0 != 4) = true := bne_iff_ne.mpr c59
                          by_cases c65 : a0_0 = 5
                          · rw [if_pos c65] at H
                            have c65b0 : (a0_0 == 5) = true := beq_iff_eq.mpr c65
                            have c65b1 : (a0_0 != 5) = false := bne_eq_false_iff_eq.mpr c65
                            clear c65
                            have H' := Aside0.mk H
                            clear H
                            have hcz66_0 : wc.cell? ⟨gb170, 0, none⟩ = some (.int .i64 a0_0) := (blk_cell BK170.out 0).trans rfl
                            have hcz66_1 : wc.cell? ⟨gb170, 1, none⟩ = some (.string a0_1) := (blk_cell BK170.out 1).trans rfl
                            have hcz66_2 : wc.cell? ⟨gb170, 2, none⟩ = some (.slice A0_2 l0_2.length c0_2) := (blk_cell BK170.out 2).trans rfl
                            have hfz66_0 := blk_frozen BK170.out 0
                            have hfz66_1 := blk_frozen BK170.out 1
                            have hfz66_2 := blk_frozen BK170.out 2
                            go_wp2
                            go_meet
                            case rel => exact ⟨_, (((l0_2.length : Int) != 2)), (by first | rfl | (simp; done) | (simp [*]; done) | (have e_ : ∀ l : List UInt8, (l != []) = !l.isEmpty := (fun l => by cases l <;> rfl); simp [e_]; done)), H', ⟨by have := HJ3.out; have := HJ11.out; have := HJ22.out; first | omega | exact Nat.le_refl _⟩, ⟨by (with_reducible repeat (first | refine blk_drewN ?_ _ | refine blk_drew ?_ | refine blk_alloc ?_ _)); exact BK170.out⟩, ⟨by repeat (first | (with_reducible first | exact HB.out | apply below_alloc | apply pw_below_drewN | apply below_drew1 | refine below_set ?_ GE170.out) | exact HB.out)⟩⟩
                          · rw [if_neg c65] at H
                            have c65b0 : (a0_0 == 5) = false := beq_eq_false_iff_ne.mpr c65
                            have c65b1 : (a0_0 != 5) = true := bne_iff_ne.mpr c65
                            have H' := Aside0.mk H
                            clear H
                            have hcz67_0 : wc.cell? ⟨gb170, 0, none⟩ = some (.int .i64 a0_0) := (blk_cell BK170.out 0).trans rfl
                            have hcz67_1 : wc.cell? ⟨gb170, 1, none⟩ = some (.string a0_1) := (blk_cell BK170.out 1).trans rfl
                            have hcz67_2 : wc.cell? ⟨gb170, 2, none⟩ = some (.slice A0_2 l0_2.length c0_2) := (blk_cell BK170.out 2).trans rfl
                            have hfz67_0 := blk_frozen BK170.out 0
                            have hfz67_1 := blk_frozen BK170.out 1
                            have hfz67_2 := blk_frozen BK170.out 2
                            go_wp2
                            go_meet
                            case rel => exact ⟨_, (false), (by first | rfl | (simp; done) | (simp [*]; done) | (have e_ : ∀ l : List UInt8, (l != []) = !l.isEmpty := (fun l => by cases l <;> rfl); simp [e_]; done)), H', ⟨by have := HJ3.out; have := HJ11.out; have := HJ22.out; first | omega | exact Nat.le_refl _⟩, ⟨by (with_reducible repeat (first | refine blk_drewN ?_ _ | refine blk_drew ?_ | refine blk_alloc ?_ _)); exact BK170.out⟩, ⟨by repeat (first | (with_reducible first | exact HB.out | apply below_alloc | apply pw_below_drewN | apply below_drew1 | refine below_set ?_ GE170.out) | exact HB.out)⟩⟩
                    · rw [if_neg c56] at H
                      have c56b0 : (a0_0 == 3) = false := beq_eq_false_iff_ne.mpr c56
                      have c56b1 : (a0_0 != 3) = true := bne_iff_ne.mpr c56
                      by_cases c68 : a0_0 = 4
                      · rw [if_pos c68] at H
                        have c68b0 : (a0_0 == 4) = true := beq_iff_eq.mpr c68
                        have c68b1 : (a0_0 != 4) = false := bne_eq_false_iff_eq.mpr c68
                        clear c68
                        by_cases c69 : (l0_2.length : Int) = 4
                        · rw [if_pos c69] at H
                          have c69b0 : ((l0_2.length : Int) == 4) = true := beq_iff_eq.mpr c69
                          have c69b1 : ((l0_2.length : Int) != 4) = false := bne_eq_false_iff_eq.mpr c69
                          clear c69
                          by_cases c70 : a0_0 = 5
                          · rw [if_pos c70] at H
                            have c70b0 : (a0_0 == 5) = true := beq_iff_eq.mpr c70
                            have c70b1 : (a0_0 != 5) = false := bne_eq_false_iff_eq.mpr c70
                            clear c70
                            have H' := Aside0.mk H
                            clear H
                            have hcz71_0 : wc.cell? ⟨gb170, 0, none⟩ = some (.int .i64 a0_0) := (blk_cell BK170.out 0).trans rfl
                            have hcz71_1 : wc.cell? ⟨gb170, 1, none⟩ = some (.string a0_1) := (blk_cell BK170.out 1).trans rfl
                            have hcz71_2 : wc.cell? ⟨gb170, 2, none⟩ = some (.slice A0_2 l0_2.length c0_2) := (blk_cell BK170.out 2).trans rfl
                            have hfz71_0 := blk_frozen BK170.out 0
                            have hfz71_1 := blk_frozen BK170.out 1
                            have hfz71_2 := blk_frozen BK170.out 2
                            go_wp2
                            go_meet
                            case rel => exact ⟨_, (((l0_2.length : Int) != 2)), (by first | rfl | (simp; done) | (simp [*]; done) | (have e_ : ∀ l : List UInt8, (l != []) = !l.isEmpty := (fun l => by cases l <;> rfl); simp [e_]; done)), H', ⟨by have := HJ3.out; have := HJ11.out; have := HJ22.out; first | omega | exact Nat.le_refl _⟩, ⟨by (with_reducible repeat (first | refine blk_drewN ?_ _ | refine blk_drew ?_ | refine blk_alloc ?_ _)); exact BK170.out⟩, ⟨by repeat (first | (with_reducible first | exact HB.out | apply below_alloc | apply pw_below_drewN | apply below_drew1 | refine below_set ?_ GE170.out) | exact HB.out)⟩⟩
                          · rw [if_neg c70] at H
                            have c70b0 : (a0_0 == 5) = false := beq_eq_false_iff_ne.mpr c70
                            have c70b1 : (a0_0 != 5) = true := bne_iff_ne.mpr c70
                            have H' := Aside0.mk H
                            clear H
                            have hcz72_0 : wc.cell? ⟨gb170, 0, none⟩ = some (.int .i64 a0_0) := (blk_cell BK170.out 0).trans rfl
                            have hcz72_1 : wc.cell? ⟨gb170, 1, none⟩ = some (.string a0_1) := (blk_cell BK170.out 1).trans rfl
                            have hcz72_2 : wc.cell? ⟨gb170, 2, none⟩ = some (.slice A0_2 l0_2.length c0_2) := (blk_cell BK170.out 2).trans rfl
                            have hfz72_0 := blk_frozen BK170.out 0
                            have hfz72_1 := blk_frozen BK170.out 1
                            have hfz72_2 := blk_frozen BK170.out 2
                            go_wp2
                            go_meet
                            case rel => exact ⟨_, (false), (by first | rfl | (simp; done) | (simp [*]; done) | (have e_ : ∀ l : List UInt8, (l != []) = !l.isEmpty := (fun l => by cases l <;> rfl); simp [e_]; done)), H', ⟨by have := HJ3.out; have := HJ11.out; have := HJ22.out; first | omega | exact Nat.le_refl _⟩, ⟨by (with_reducible repeat (first | refine blk_drewN ?_ _ | refine blk_drew ?_ | refine blk_alloc ?_ _)); exact BK170.out⟩, ⟨by repeat (first | (with_reducible first | exact HB.out | apply below_alloc | apply pw_below_drewN | apply below_drew1 | refine below_set ?_ GE170.out) | exact HB.out)⟩⟩
                        · rw [if_neg c69] at H
                          have c69b0 : ((l0_2.length : Int) == 4) = false := beq_eq_false_iff_ne.mpr c69
                          have c69b1 : ((l0_2.length : Int) != 4) = true := bne_iff_ne.mpr c69
                          have H' := Aside0.mk H
                          clear H
                          have hcz73_0 : wc.cell? ⟨gb170, 0, none⟩ = some (.int .i64 a0_0) := (blk_cell BK170.out 0).trans rfl
                          have hcz73_1 : wc.cell? ⟨gb170, 1, none⟩ = some (.string a0_1) := (blk_cell BK170.out 1).trans rfl
                          have hcz73_2 : wc.cell? ⟨gb170, 2, none⟩ = some (.slice A0_2 l0_2.length c0_2) := (blk_cell BK170.out 2).trans rfl
                          have hfz73_0 := blk_frozen BK170.out 0
                          have hfz73_1 := blk_frozen BK170.out 1
                          have hfz73_2 := blk_frozen BK170.out 2
                          go_wp2
                          go_meet
                          case rel => exact ⟨_, (true), (by first | rfl | (simp; done) | (simp [*]; done) | (have e_ : ∀ l : List UInt8, (l != []) = !l.isEmpty := (fun l => by cases l <;> rfl); simp [e_]; done)), H', ⟨by have := HJ3.out; have := HJ11.out; have := HJ22.out; first | omega | exact Nat.le_refl _⟩, ⟨by (with_reducible repeat (first | refine blk_drewN ?_ _ | refine blk_drew ?_ | refine blk_alloc ?_ _)); exact BK170.out⟩, ⟨by repeat (first | (with_reducible first | exact HB.out | apply below_alloc | apply pw_below_drewN | apply below_drew1 | refine below_set ?_ GE170.out) | exact HB.out)⟩⟩
                      · rw [if_neg c68] at H
                        have c68b0 : (a0_0 == 4) = false := beq_eq_false_iff_ne.mpr c68
                        have c68b1 : (a0_0 != 4) = true := bne_iff_ne.mpr c68
                        by_cases c74 : a0_0 = 5
                        · rw [if_pos c74] at H
                          have c74b0 : (a0_0 == 5) = true := beq_iff_eq.mpr c74
                          have c74b1 : (a0_0 != 5) = false := bne_eq_false_iff_eq.mpr c74
                          clear c74
                          have H' := Aside0.mk H
                          clear H
                          have hcz75_0 : wc.cell? ⟨gb170, 0, none⟩ = some (.int .i64 a0_0) := (blk_cell BK170.out 0).trans rfl
                          have hcz75_1 : wc.cell? ⟨gb170, 1, none⟩ = some (.string a0_1) := (blk_cell BK170.out 1).trans rfl
                          have hcz75_2 : wc.cell? ⟨gb170, 2, none⟩ = some (.slice A0_2 l0_2.length c0_2) := (blk_cell BK170.out 2).trans rfl
                          have hfz75_0 := blk_frozen BK170.out 0
                          have hfz75_1 := blk_frozen BK170.out 1
                          have hfz75_2 := blk_frozen BK170.out 2
                          go_wp2
                          go_meet
                          case rel => exact ⟨_, (((l0_2.length : Int) != 2)), (by first | rfl | (simp; done) | (simp [*]; done) | (have e_ : ∀ l : List UInt8, (l != []) = !l.isEmpty := (fun l => by cases l <;> rfl); simp [e_]; done)), H', ⟨by have := HJ3.out; have := HJ11.out; have := HJ22.out; first | omega | exact Nat.le_refl _⟩, ⟨by (with_reducible repeat (first | refine blk_drewN ?_ _ | refine blk_drew ?_ | refine blk_alloc ?_ _)); exact BK170.out⟩, ⟨by repeat (first | (with_reducible first | exact HB.out | apply below_alloc | apply pw_below_drewN | apply below_drew1 | refine below_set ?_ GE170.out) | exact HB.out)⟩⟩
                        · rw [if_neg c74] at H
                          have c74b0 : (a0_0 == 5) = false := beq_eq_false_iff_ne.mpr c74
                          have c74b1 : (a0_0 != 5) = true := bne_iff_ne.mpr c74
                          have H' := Aside0.mk H
                          clear H
                          have hcz76_0 : wc.cell? ⟨gb170, 0, none⟩ = some (.int .i64 a0_0) := (blk_cell BK170.out 0).trans rfl
                          have hcz76_1 : wc.cell? ⟨gb170, 1, none⟩ = some (.string a0_1) := (blk_cell BK170.out 1).trans rfl
                          have hcz76_2 : wc.cell? ⟨gb170, 2, none⟩ = some (.slice A0_2 l0_2.length c0_2) := (blk_cell BK170.out 2).trans rfl
                          have hfz76_0 := blk_frozen BK170.out 0
                          have hfz76_1 := blk_frozen BK170.out 1
                          have hfz76_2 := blk_frozen BK170.out 2
                          go_wp2
                          go_meet
                          case rel => exact ⟨_, (false), (by first | rfl | (simp; done) | (simp [*]; done) | (have e_ : ∀ l : List UInt8, (l != []) = !l.isEmpty := (fun l => by cases l <;> rfl); simp [e_]; done)), H', ⟨by have := HJ3.out; have := HJ11.out; have := HJ22.out; first | omega | exact Nat.le_refl _⟩, ⟨by (with_reducible repeat (first | refine blk_drewN ?_ _ | refine blk_drew ?_ | refine blk_alloc ?_ _)); exact BK170.out⟩, ⟨by repeat (first | (with_reducible first | exact HB.out | apply below_alloc | apply pw_below_drewN | apply below_drew1 | refine below_set ?_ GE170.out) | exact HB.out)⟩⟩
              case rest =>
                clear HC30
                try clear c1
                try clear c2
                try clear p2
                try clear c3
                try clear c4
                try clear c5
                try clear c6
                try clear c7
                try clear c7b0
                try clear c9
                try clear c9b0
                try clear c13
                try clear c14
                try clear c14b0
                try clear c14b1
                try clear c18
                try clear c18b0
                try clear c18b1
                try clear c24
                try clear c25
                try clear c25b0
                try clear c25b1
                try clear c27
                try clear c27b0
                try clear c27b1
                try clear c31
                try clear c32
                try clear c32b0
                try clear c33
                try clear c33b0
                try clear c33b1
                try clear c35
                try clear c35b0
                try clear c35b1
                try clear c36
                try clear c36b0
                try clear c36b1
                try clear c38
                try clear c38b0
                try clear c38b1
                try clear c39
                try clear c39b0
                try clear c39b1
                try clear c40
                try clear c40b0
                try clear c40b1
                try clear c44
                try clear c44b0
                try clear c44b1
                try clear c47
                try clear c47b0
                try clear c47b1
                try clear c48
                try clear c48b0
                try clear c48b1
                try clear c49
                try clear c49b0
                try clear c49b1
                try clear c53
                try clear c53b0
                try clear c53b1
                try clear c56
                try clear c56b0
                try clear c56b1
                try clear c57
                try clear c57b0
                try clear c57b1
                try clear c59
                try clear c59b0
                try clear c59b1
                try clear c60
                try clear c60b0
                try clear c60b1
                try clear c61
                try clear c61b0
                try clear c61b1
                try clear c65
                try clear c65b0
                try clear c65b1
                try clear c68
                try clear c68b0
                try clear c68b1
                try clear c69
                try clear c69b0
                try clear c69b1
                try clear c70
                try clear c70b0
                try clear c70b1
                try clear c74
                try clear c74b0
                try clear c74b1
                try clear hcz10_0
                try clear hcz10_1
                try clear hcz10_2
                try clear hcz11_0
                try clear hcz11_1
                try clear hcz11_2
                try clear hcz16_0
                try clear hcz16_1
                try clear hcz16_2
                try clear hcz20_0
                try clear hcz20_1
                try clear hcz20_2
                try clear hcz22_0
                try clear hcz22_1
                try clear hcz22_2
                try clear hcz26_0
                try clear hcz26_1
                try clear hcz26_2
                try clear hcz28_0
                try clear hcz28_1
                try clear hcz28_2
                try clear hcz29_0
                try clear hcz29_1
                try clear hcz29_2
                try clear hcz34_0
                try clear hcz34_1
                try clear hcz34_2
                try clear hcz37_0
                try clear hcz37_1
                try clear hcz37_2
                try clear hcz41_0
                try clear hcz41_1
                try clear hcz41_2
                try clear hcz42_0
                try clear hcz42_1
                try clear hcz42_2
                try clear hcz43_0
                try clear hcz43_1
                try clear hcz43_2
                try clear hcz45_0
                try clear hcz45_1
                try clear hcz45_2
                try clear hcz46_0
                try clear hcz46_1
                try clear hcz46_2
                try clear hcz50_0
                try clear hcz50_1
                try clear hcz50_2
                try clear hcz51_0
                try clear hcz51_1
                try clear hcz51_2
                try clear hcz52_0
                try clear hcz52_1
                try clear hcz52_2
                try clear hcz54_0
                try clear hcz54_1
                try clear hcz54_2
                try clear hcz55_0
                try clear hcz55_1
                try clear hcz55_2
                try clear hcz58_0
                try clear hcz58_1
                try clear hcz58_2
                try clear hcz62_0
                try clear hcz62_1
                try clear hcz62_2
                try clear hcz63_0
                try clear hcz63_1
                try clear hcz63_2
                try clear hcz64_0
                try clear hcz64_1
                try clear hcz64_2
                try clear hcz66_0
                try clear hcz66_1
                try clear hcz66_2
                try clear hcz67_0
                try clear hcz67_1
                try clear hcz67_2
                try clear hcz6_0
                try clear hcz6_1
                try clear hcz6_2
                try clear hcz71_0
                try clear hcz71_1
                try clear hcz71_2
                try clear hcz72_0
                try clear hcz72_1
                try clear hcz72_2
                try clear hcz73_0
                try clear hcz73_1
                try clear hcz73_2
                try clear hcz75_0
                try clear hcz75_1
                try clear hcz75_2
                try clear hcz76_0
                try clear hcz76_1
                try clear hcz76_2
                try clear hcz8_0
                try clear hcz8_1
                try clear hcz8_2
                try clear hfz10_0
                try clear hfz10_1
                try clear hfz10_2
                try clear hfz11_0
                try clear hfz11_1
                try clear hfz11_2
                try clear hfz16_0
                try clear hfz16_1
                try clear hfz16_2
                try clear hfz20_0
                try clear hfz20_1
                try clear hfz20_2
                try clear hfz22_0
                try clear hfz22_1
                try clear hfz22_2
                try clear hfz26_0
                try clear hfz26_1
                try clear hfz26_2
                try clear hfz28_0
                try clear hfz28_1
                try clear hfz28_2
                try clear hfz29_0
                try clear hfz29_1
                try clear hfz29_2
                try clear hfz34_0
                try clear hfz34_1
                try clear hfz34_2
                try clear hfz37_0
                try clear hfz37_1
                try clear hfz37_2
                try clear hfz41_0
                try clear hfz41_1
                try clear hfz41_2
                try clear hfz42_0
                try clear hfz42_1
                try clear hfz42_2
                try clear hfz43_0
                try clear hfz43_1
                try clear hfz43_2
                try clear hfz45_0
                try clear hfz45_1
                try clear hfz45_2
                try clear hfz46_0
                try clear hfz46_1
                try clear hfz46_2
                try clear hfz50_0
                try clear hfz50_1
                try clear hfz50_2
                try clear hfz51_0
                try clear hfz51_1
                try clear hfz51_2
                try clear hfz52_0
                try clear hfz52_1
                try clear hfz52_2
                try clear hfz54_0
                try clear hfz54_1
                try clear hfz54_2
                try clear hfz55_0
                try clear hfz55_1
                try clear hfz55_2
                try clear hfz58_0
                try clear hfz58_1
                try clear hfz58_2
                try clear hfz62_0
                try clear hfz62_1
                try clear hfz62_2
                try clear hfz63_0
                try clear hfz63_1
                try clear hfz63_2
                try clear hfz64_0
                try clear hfz64_1
                try clear hfz64_2
                try clear hfz66_0
                try clear hfz66_1
                try clear hfz66_2
                try clear hfz67_0
                try clear hfz67_1
                try clear hfz67_2
                try clear hfz6_0
                try clear hfz6_1
                try clear hfz6_2
                try clear hfz71_0
                try clear hfz71_1
                try clear hfz71_2
                try clear hfz72_0
                try clear hfz72_1
                try clear hfz72_2
                try clear hfz73_0
                try clear hfz73_1
                try clear hfz73_2
                try clear hfz75_0
                try clear hfz75_1
                try clear hfz75_2
                try clear hfz76_0
                try clear hfz76_1
                try clear hfz76_2
                try clear hfz8_0
                try clear hfz8_1
                try clear hfz8_2
                try clear p2
                obtain ⟨kq, x8_29, rfl, HA, HJ29, BK170, HB⟩ := hcut
                cases kq with
                | zero => exact absurd HA.out (by simp [saplingref12_Parts.j3])
                | succ kj29 =>
                  have H := HA.out
                  clear HA
                  simp only [saplingref12_Parts.j3] at H
                  by_cases c77 : x8_29 = true
                  · subst c77
                    have H1 : (some (-1)) = some r := by rw [if_pos rfl] at H; exact H
                    clear H
                    have H := H1
                    clear H1
                    obtain rfl := Option.some.inj H
                    go_wp2
                    go_ret
                    exact ⟨by first | rfl | (simp [errW_none, errW_some] <;> rfl) | (simp [*, errW_none, errW_some] <;> rfl), by repeat (first | (with_reducible first | exact HB.out | apply below_alloc | apply pw_below_drewN | apply below_drew1 | refine below_set ?_ GE170.out) | exact HB.out)⟩
                  · replace c77 := Bool.eq_false_iff.mpr c77
                    subst c77
                    have H1 : (saplingref12_Parts.l0 kj29 a1 (wrap64 (a2 - 1)) (l0_2.length : Int) 0 a0_0 a0_1 l0_2) = some r := by rw [if_neg (show ¬ (false = true) by decide)] at H; exact H
                    clear H
                    have H := H1
                    clear H1
                    have H' := Aside0.mk H
                    clear H
                    go_wp2
                    go_loopg [2, 9] kj29 (fun kq v2 v9 w' => ∃ (x2_5 : Int) (x9_5 : Int), v2 = .int .i64 x2_5 ∧ v9 = .int .i64 x9_5 ∧ Aside0 (saplingref12_Parts.l0 kq a1 x2_5 (l0_2.length : Int) x9_5 a0_0 a0_1 l0_2 = some r) ∧ Aside0 (kq ≤ kj29) ∧ Aside0 (w'.heap[gb170]? = some (.cells #[.int .i64 a0_0, .string a0_1, (.slice A0_2 l0_2.length c0_2)] 84 (0, 0))) ∧ Aside0 (Below w.heap.size w w'))
                    case atStart => exact ⟨(wrap64 (a2 - 1)), (0), (by first | rfl | (simp; done) | (simp [*]; done) | (have e_ : ∀ l : List UInt8, (l != []) = !l.isEmpty := (fun l => by cases l <;> rfl); simp [e_]; done)), (by first | rfl | (simp; done) | (simp [*]; done) | (have e_ : ∀ l : List UInt8, (l != []) = !l.isEmpty := (fun l => by cases l <;> rfl); simp [e_]; done)), H', ⟨Nat.le_refl _⟩, ⟨by (with_reducible repeat (first | refine blk_drewN ?_ _ | refine blk_drew ?_ | refine blk_alloc ?_ _)); exact BK170.out⟩, ⟨by repeat (first | (with_reducible first | exact HB.out | apply below_alloc | apply pw_below_drewN | apply below_drew1 | refine below_set ?_ GE170.out) | exact HB.out)⟩⟩
                    case round =>
                      clear H'
                      try clear c1
                      try clear c2
                      try clear p2
                      try clear c3
                      try clear c4
                      try clear c5
                      try clear c6
                      try clear p6
                      try clear c7
                      try clear c7b0
                      try clear c9
                      try clear c9b0
                      try clear c13
                      try clear c14
                      try clear c14b0
                      try clear c14b1
                      try clear c18
                      try clear c18b0
                      try clear c18b1
                      try clear c24
                      try clear c25
                      try clear c25b0
                      try clear c25b1
                      try clear c27
                      try clear c27b0
                      try clear c27b1
                      try clear c31
                      try clear c32
                      try clear c32b0
                      try clear c33
                      try clear c33b0
                      try clear c33b1
                      try clear c35
                      try clear c35b0
                      try clear c35b1
                      try clear c36
                      try clear c36b0
                      try clear c36b1
                      try clear c38
                      try clear c38b0
                      try clear c38b1
                      try clear c39
                      try clear c39b0
                      try clear c39b1
                      try clear c40
                      try clear c40b0
                      try clear c40b1
                      try clear c44
                      try clear c44b0
                      try clear c44b1
                      try clear c47
                      try clear c47b0
                      try clear c47b1
                      try clear c48
                      try clear c48b0
                      try clear c48b1
                      try clear c49
                      try clear c49b0
                      try clear c49b1
                      try clear c53
                      try clear c53b0
                      try clear c53b1
                      try clear c56
                      try clear c56b0
                      try clear c56b1
                      try clear c57
                      try clear c57b0
                      try clear c57b1
                      try clear c59
                      try clear c59b0
                      try clear c59b1
                      try clear c60
                      try clear c60b0
                      try clear c60b1
                      try clear c61
                      try clear c61b0
                      try clear c61b1
                      try clear p64
                      try clear c65
                      try clear c65b0
                      try clear c65b1
                      try clear c68
                      try clear c68b0
                      try clear c68b1
                      try clear c69
                      try clear c69b0
                      try clear c69b1
                      try clear c70
                      try clear c70b0
                      try clear c70b1
                      try clear c74
                      try clear c74b0
                      try clear c74b1
                      try clear c77
                      try clear hcz10_0
                      try clear hcz10_1
                      try clear hcz10_2
                      try clear hcz11_0
                      try clear hcz11_1
                      try clear hcz11_2
                      try clear hcz16_0
                      try clear hcz16_1
                      try clear hcz16_2
                      try clear hcz20_0
                      try clear hcz20_1
                      try clear hcz20_2
                      try clear hcz22_0
                      try clear hcz22_1
                      try clear hcz22_2
                      try clear hcz26_0
                      try clear hcz26_1
                      try clear hcz26_2
                      try clear hcz28_0
                      try clear hcz28_1
                      try clear hcz28_2
                      try clear hcz29_0
                      try clear hcz29_1
                      try clear hcz29_2
                      try clear hcz34_0
                      try clear hcz34_1
                      try clear hcz34_2
                      try clear hcz37_0
                      try clear hcz37_1
                      try clear hcz37_2
                      try clear hcz41_0
                      try clear hcz41_1
                      try clear hcz41_2
                      try clear hcz42_0
                      try clear hcz42_1
                      try clear hcz42_2
                      try clear hcz43_0
                      try clear hcz43_1
                      try clear hcz43_2
                      try clear hcz45_0
                      try clear hcz45_1
                      try clear hcz45_2
                      try clear hcz46_0
                      try clear hcz46_1
                      try clear hcz46_2
                      try clear hcz50_0
                      try clear hcz50_1
                      try clear hcz50_2
                      try clear hcz51_0
                      try clear hcz51_1
                      try clear hcz51_2
                      try clear hcz52_0
                      try clear hcz52_1
                      try clear hcz52_2
                      try clear hcz54_0
                      try clear hcz54_1
                      try clear hcz54_2
                      try clear hcz55_0
                      try clear hcz55_1
                      try clear hcz55_2
                      try clear hcz58_0
                      try clear hcz58_1
                      try clear hcz58_2
                      try clear hcz62_0
                      try clear hcz62_1
                      try clear hcz62_2
                      try clear hcz63_0
                      try clear hcz63_1
                      try clear hcz63_2
                      try clear hcz64_0
                      try clear hcz64_1
                      try clear hcz64_2
                      try clear hcz66_0
                      try clear hcz66_1
                      try clear hcz66_2
                      try clear hcz67_0
                      try clear hcz67_1
                      try clear hcz67_2
                      try clear hcz6_0
                      try clear hcz6_1
                      try clear hcz6_2
                      try clear hcz71_0
                      try clear hcz71_1
                      try clear hcz71_2
                      try clear hcz72_0
                      try clear hcz72_1
                      try clear hcz72_2
                      try clear hcz73_0
                      try clear hcz73_1
                      try clear hcz73_2
                      try clear hcz75_0
                      try clear hcz75_1
                      try clear hcz75_2
                      try clear hcz76_0
                      try clear hcz76_1
                      try clear hcz76_2
                      try clear hcz8_0
                      try clear hcz8_1
                      try clear hcz8_2
                      try clear hfz10_0
                      try clear hfz10_1
                      try clear hfz10_2
                      try clear hfz11_0
                      try clear hfz11_1
                      try clear hfz11_2
                      try clear hfz16_0
                      try clear hfz16_1
                      try clear hfz16_2
                      try clear hfz20_0
                      try clear hfz20_1
                      try clear hfz20_2
                      try clear hfz22_0
                      try clear hfz22_1
                      try clear hfz22_2
                      try clear hfz26_0
                      try clear hfz26_1
                      try clear hfz26_2
                      try clear hfz28_0
                      try clear hfz28_1
                      try clear hfz28_2
                      try clear hfz29_0
                      try clear hfz29_1
                      try clear hfz29_2
                      try clear hfz34_0
                      try clear hfz34_1
                      try clear hfz34_2
                      try clear hfz37_0
                      try clear hfz37_1
                      try clear hfz37_2
                      try clear hfz41_0
                      try clear hfz41_1
                      try clear hfz41_2
                      try clear hfz42_0
                      try clear hfz42_1
                      try clear hfz42_2
                      try clear hfz43_0
                      try clear hfz43_1
                      try clear hfz43_2
                      try clear hfz45_0
                      try clear hfz45_1
                      try clear hfz45_2
                      try clear hfz46_0
                      try clear hfz46_1
                      try clear hfz46_2
                      try clear hfz50_0
                      try clear hfz50_1
                      try clear hfz50_2
                      try clear hfz51_0
                      try clear hfz51_1
                      try clear hfz51_2
                      try clear hfz52_0
                      try clear hfz52_1
                      try clear hfz52_2
                      try clear hfz54_0
                      try clear hfz54_1
                      try clear hfz54_2
                      try clear hfz55_0
                      try clear hfz55_1
                      try clear hfz55_2
                      try clear hfz58_0
                      try clear hfz58_1
                      try clear hfz58_2
                      try clear hfz62_0
                      try clear hfz62_1
                      try clear hfz62_2
                      try clear hfz63_0
                      try clear hfz63_1
                      try clear hfz63_2
                      try clear hfz64_0
                      try clear hfz64_1
                      try clear hfz64_2
                      try clear hfz66_0
                      try clear hfz66_1
                      try clear hfz66_2
                      try clear hfz67_0
                      try clear hfz67_1
                      try clear hfz67_2
                      try clear hfz6_0
                      try clear hfz6_1
                      try clear hfz6_2
                      try clear hfz71_0
                      try clear hfz71_1
                      try clear hfz71_2
                      try clear hfz72_0
                      try clear hfz72_1
                      try clear hfz72_2
                      try clear hfz73_0
                      try clear hfz73_1
                      try clear hfz73_2
                      try clear hfz75_0
                      try clear hfz75_1
                      try clear hfz75_2
                      try clear hfz76_0
                      try clear hfz76_1
                      try clear hfz76_2
                      try clear hfz8_0
                      try clear hfz8_1
                      try clear hfz8_2
                      try clear p2
                      obtain ⟨x2_5, x9_5, rfl, rfl, HA, HK5, BK170, HB⟩ := hrel
                      cases gk with
                      | zero => exact absurd HA.out (by simp [saplingref12_Parts.l0])
                      | succ k5 =>
                        have H := HA.out
                        clear HA
                        simp only [saplingref12_Parts.l0] at H
                        by_cases c78 : x9_5 < (l0_2.length : Int)
                        · rw [if_pos c78] at H
                          have c78b0 : decide (x9_5 < (l0_2.length : Int)) = true := decide_eq_true c78
                          clear c78
                          by_cases c79 : x2_5 ≥ 0
                          · rw [if_pos c79] at H
                            have c79b0 : decide (0 ≤ x2_5) = true := decide_eq_true c79
                            clear c79
                            by_cases c80 : 0 ≤ x9_5
                            · rw [if_pos c80] at H
                              have c80b0 : decide (0 ≤ x9_5) = true := decide_eq_true c80
                              clear c80
                              by_cases c81 : x9_5 < (l0_2.length : Int)
                              · rw [if_pos c81] at H
                                have c81b0 : decide (x9_5 < (l0_2.length : Int)) = true := decide_eq_true c81
                                clear c81
                                replace H := Option.bind_eq_some_iff.mp H
                                obtain ⟨t174, A820, H⟩ := H
                                replace H : (saplingref12_Parts.l0 k5 a1 t174 (l0_2.length : Int) (wrap64 (x9_5 + 1)) a0_0 a0_1 l0_2) = some r := H
                                have A82 := Aside0.mk A820
                                clear A820
                                have H' := Aside0.mk H
                                clear H
                                have hcz83_0 : wr.cell? ⟨gb170, 0, none⟩ = some (.int .i64 a0_0) := (blk_cell BK170.out 0).trans rfl
                                have hcz83_1 : wr.cell? ⟨gb170, 1, none⟩ = some (.string a0_1) := (blk_cell BK170.out 1).trans rfl
                                have hcz83_2 : wr.cell? ⟨gb170, 2, none⟩ = some (.slice A0_2 l0_2.length c0_2) := (blk_cell BK170.out 2).trans rfl
                                have hfz83_0 := blk_frozen BK170.out 0
                                have hfz83_1 := blk_frozen BK170.out 1
                                have hfz83_2 := blk_frozen BK170.out 2
                                have p173 : 0 ≤ (x9_5 : Int) := of_decide_eq_true (by first | (with_reducible assumption) | assumption)
                                have q173 : x9_5 < (l0_2.length : Int) := of_decide_eq_true (by first | (with_reducible assumption) | assumption)
                                obtain ⟨ad173, A173_2, c173_2, e173, hx173_0, hx173_1, hx173_2, hl173_2, hi173_2⟩ := at_T84 HR0_2.out x9_5 p173 q173
                                cases e173
                                replace hx173_0 := (HB.out.cell (World.block_lt_of_cell? w _ hx173_0)).trans hx173_0
                                replace hx173_1 := (HB.out.cell (World.block_lt_of_cell? w _ hx173_1)).trans hx173_1
                                replace hx173_2 := (HB.out.cell (World.block_lt_of_cell? w _ hx173_2)).trans hx173_2
                                have HR173_2 := Aside0.mk hi173_2
                                have HC173_2 := Aside0.mk hl173_2
                                clear hi173_2 hl173_2
                                replace p173 := eq_true p173
                                replace q173 := eq_true q173
                                go_wp2_with (first | ((with_reducible refine gate_callee (f := 134) rfl ?_); refine goesL_ (some 115) rfl rfl Tryz.func134 (by kernel_rfl) rfl #[.agg #[.int .i64 ((rd_T84 l0_2 x9_5).f0), .string ((rd_T84 l0_2 x9_5).f1), .slice A173_2 ((rd_T84 l0_2 x9_5).f2).length c173_2], .int .i64 (wrap64 (a1 + 1)), .int .i64 x2_5] rfl (by (try simp only [List.map_toArray, List.map_cons, List.map_nil]); first | done | rfl | (simp only [List.length_drop, List.length_take]; rfl)) ?_; (with_reducible refine (ih k5 (by have := HJ3.out; have := HJ11.out; have := HJ22.out; have := HJ29.out; have := HK5.out; omega) ((rd_T84 l0_2 x9_5).f0) ((rd_T84 l0_2 x9_5).f1) _ _ ((rd_T84 l0_2 x9_5).f2) (wrap64 (a1 + 1)) x2_5 t174 _ ?side1 ?side2 A82.out).mono ?_); (case side1 => repeat (first | exact (Kd.C_below HR173_2.out HB.out) | (with_reducible refine Kd.C_alloc ?_ _) | (with_reducible refine Kd.C_drewN ?_ _) | (with_reducible refine Kd.C_drew ?_))); (case side2 => exact HC173_2.out); rintro e w84 ⟨rfl, hb⟩; refine ⟨_, rfl, ?_⟩; have n0_ := Aside0.mk (blk_below (g := gb170) (o := .cells #[.int .i64 a0_0, .string a0_1, .slice (some ad173) l0_2.length c0_2] 84 (0, 0)) (by (with_reducible repeat (first | refine blk_drewN ?_ _ | refine blk_drew ?_ | refine blk_alloc ?_ _)); exact BK170.out) hb); have n1_ := Aside0.mk (below_step (by repeat (first | (with_reducible first | exact HB.out | apply below_alloc | apply pw_below_drewN | apply below_drew1 | refine below_set ?_ GE170.out) | exact HB.out)) hb); clear BK170; clear HB; have BK170 := n0_; have HB := n1_; clear n0_ n1_; (try clear hb); (try clear hb2); (try clear hk); (try clear hi)))
                                go_roundg k5
                                case measure => have := HJ3.out; have := HJ11.out; have := HJ22.out; have := HJ29.out; have := HK5.out; omega
                                case rel => exact ⟨(t174), (wrap64 (x9_5 + 1)), (by first | rfl | (simp; done) | (simp [*]; done) | (have e_ : ∀ l : List UInt8, (l != []) = !l.isEmpty := (fun l => by cases l <;> rfl); simp [e_]; done)), (by first | rfl | (simp; done) | (simp [*]; done) | (have e_ : ∀ l : List UInt8, (l != []) = !l.isEmpty := (fun l => by cases l <;> rfl); simp [e_]; done)), H', ⟨by have := HJ3.out; have := HJ11.out; have := HJ22.out; have := HJ29.out; have := HK5.out; omega⟩, ⟨by (with_reducible repeat (first | refine blk_drewN ?_ _ | refine blk_drew ?_ | refine blk_alloc ?_ _)); exact BK170.out⟩, ⟨by repeat (first | (with_reducible first | exact HB.out | apply below_alloc | apply pw_below_drewN | apply below_drew1 | refine below_set ?_ GE170.out) | exact HB.out)⟩⟩
                              · rw [if_neg c81] at H
                                exact absurd H (by simp)
                            · rw [if_neg c80] at H
                              exact absurd H (by simp)
                          · rw [if_neg c79] at H
                            have c79b0 : decide (0 ≤ x2_5) = false := decide_eq_false c79
                            clear c79
                            obtain rfl := Option.some.inj H
                            go_wp2
                            go_ret
                            exact ⟨by first | rfl | (simp [errW_none, errW_some] <;> rfl) | (simp [*, errW_none, errW_some] <;> rfl), by repeat (first | (with_reducible first | exact HB.out | apply below_alloc | apply pw_below_drewN | apply below_drew1 | refine below_set ?_ GE170.out) | exact HB.out)⟩
                        · rw [if_neg c78] at H
                          have c78b0 : decide (x9_5 < (l0_2.length : Int)) = false := decide_eq_false c78
                          clear c78
                          obtain rfl := Option.some.inj H
                          go_wp2
                          go_ret
                          exact ⟨by first | rfl | (simp [errW_none, errW_some] <;> rfl) | (simp [*, errW_none, errW_some] <;> rfl), by repeat (first | (with_reducible first | exact HB.out | apply below_alloc | apply pw_below_drewN | apply below_drew1 | refine below_set ?_ GE170.out) | exact HB.out)⟩

end Go.Proofs.YtijgifinhbbmaaaGreatDoor.Q
-- Written by wip/xprint.py: the machine's side of a function, by program.
namespace Go.Proofs.YtijgifinhbbmaaaGreatDoor.Q
open Go.RowKit Go.Proofs.YtijgifinhbbmaaaGreatDoorW.PrintWords Go.Proofs.YtijgifinhbbmaaaGreatDoorW.PrintLast Go.Proofs.YtijgifinhbbmaaaGreatDoorW.PrintMore
attribute [local go_sem] max2_int min2_int max_two min_two max_three min_three max_four min_four   -- for this text's walks alone
set_option linter.unusedVariables false
set_option linter.unusedSimpArgs false

/-! ### saplingref12_Good: function 83 -/
def saplingref12_Good.f (k : Nat) (a0_0 : Int) (a0_1 : ByteArray) (l0_2 : List (S84)) : Option (Bool) := (saplingref12_Parts.f k a0_0 a0_1 l0_2 0 4096).bind fun t176 => (some (decide (t176 ≥ 0)))
theorem saplingref12_Good.mono : ∀ a0 a1 a2 k, LeO (saplingref12_Good.f k a0 a1 a2) (saplingref12_Good.f (k + 1) a0 a1 a2) := by
  intro a0 a1 a2 k
  unfold saplingref12_Good.f
  repeat' first
      | (with_reducible exact saplingref12_Parts.mono _ _ _ _ _ _)
      | (with_reducible exact LeO.refl _)
      | (with_reducible exact LeO.none _)
      | (with_reducible refine LeO.ite ?_ ?_)
      | (with_reducible refine LeO.bind ?_ (fun _ => ?_))
      | exact saplingref12_Parts.mono _ _ _ _ _ _
      | exact LeO.none _
      | refine LeO.ite ?_ ?_
      | refine LeO.bind ?_ (fun _ => ?_)
set_option maxHeartbeats 8000000 in
set_option maxRecDepth 100000 in
theorem saplingref12_Good.calls (k : Nat) (a0_0 : Int) (a0_1 : ByteArray) (A0_2 : Option Addr) (c0_2 : Nat) (l0_2 : List (S84)) (r : Bool) (w : World) (hr0_2 : Kd.C k84 w A0_2 l0_2.length l0_2) (hc0_2 : l0_2.length ≤ c0_2) (h : saplingref12_Good.f k a0_0 a0_1 l0_2 = some r) :
    Calls Tryz.prog 83 #[.agg #[.int .i64 a0_0, .string a0_1, .slice A0_2 l0_2.length c0_2]] w fun e w' => e = .returned (.bool r) ∧ Below w.heap.size w w' := by
  have hu84 := Tryz.underlying84
  have HR0_2 := Aside0.mk hr0_2
  have HC0_2 := Aside0.mk hc0_2
  clear hr0_2 hc0_2
  have HB := Aside0.mk (Below.refl w.heap.size w)
  have H : ((saplingref12_Parts.f k a0_0 a0_1 l0_2 0 4096).bind fun t176 => (some (decide (t176 ≥ 0)))) = some r := h
  clear h
  replace H := Option.bind_eq_some_iff.mp H
  obtain ⟨t176, A20, H⟩ := H
  replace H : (some (decide (t176 ≥ 0))) = some r := H
  have A2 := Aside0.mk A20
  clear A20
  obtain rfl := Option.some.inj H
  go_enter Tryz.func83, Tryz.ntmps83
  go_wp2_with (first | ((with_reducible refine gate_dst (N := 1) rfl ?_); refine box_event ?hg (N := 1) ?hd (cs := #[.int .i64 a0_0, .string a0_1, .slice A0_2 l0_2.length c0_2]) (t := 84) ?hr ?_; (case hd => rfl); (case hg => rfl); (case hr => first | (go_simp; done) | (go_simp; rfl)); intro gb175 hg w3 hbox hb; have n0_ := Aside0.mk (below_step (by repeat (first | (with_reducible first | exact HB.out | apply below_alloc | apply pw_below_drewN | apply below_drew1) | exact HB.out)) hb); have n1_ := Aside0.mk (hbox); have n2_ := Aside0.mk ((by rw [hg]; exact (below_size (by repeat (first | (with_reducible first | exact HB.out | apply below_alloc | apply pw_below_drewN | apply below_drew1) | exact HB.out))) : w.heap.size ≤ gb175)); have n3_ := Aside0.mk ((by rw [hg]; exact (below_size (by repeat (first | (with_reducible first | exact HB.out | apply below_alloc | apply pw_below_drewN | apply below_drew1) | exact HB.out))) : w.heap.size ≤ gb175)); clear HB; have HB := n0_; have BK175 := n1_; have GW175 := n2_; have GE175 := n3_; clear n0_ n1_ n2_ n3_; clear hb hbox hg; have hcz4_0 : w3.cell? ⟨gb175, 0, none⟩ = some (.int .i64 a0_0) := (blk_cell BK175.out 0).trans rfl; have hcz4_1 : w3.cell? ⟨gb175, 1, none⟩ = some (.string a0_1) := (blk_cell BK175.out 1).trans rfl; have hcz4_2 : w3.cell? ⟨gb175, 2, none⟩ = some (.slice A0_2 l0_2.length c0_2) := (blk_cell BK175.out 2).trans rfl; have hfz4_0 := blk_frozen BK175.out 0; have hfz4_1 := blk_frozen BK175.out 1; have hfz4_2 := blk_frozen BK175.out 2) | ((with_reducible refine gate_callee (f := 134) rfl ?_); refine goesL_ (some 4) rfl rfl Tryz.func134 (by kernel_rfl) rfl #[.agg #[.int .i64 a0_0, .string a0_1, .slice A0_2 l0_2.length c0_2], .int .i64 0, .int .i64 4096] rfl (by (try simp only [List.map_toArray, List.map_cons, List.map_nil]); first | done | rfl | (simp only [List.length_drop, List.length_take]; rfl)) ?_; (with_reducible refine (saplingref12_Parts.calls k a0_0 a0_1 _ _ l0_2 0 4096 t176 _ ?side1 ?side2 A2.out).mono ?_); (case side1 => repeat (first | exact (Kd.C_below HR0_2.out HB.out) | (with_reducible refine Kd.C_alloc ?_ _) | (with_reducible refine Kd.C_drewN ?_ _) | (with_reducible refine Kd.C_drew ?_))); (case side2 => exact HC0_2.out); rintro e w5 ⟨rfl, hb⟩; refine ⟨_, rfl, ?_⟩; have n0_ := Aside0.mk (blk_below (g := gb175) (o := .cells #[.int .i64 a0_0, .string a0_1, .slice A0_2 l0_2.length c0_2] 84 (0, 0)) (by (with_reducible repeat (first | refine blk_drewN ?_ _ | refine blk_drew ?_ | refine blk_alloc ?_ _)); exact BK175.out) hb); have n1_ := Aside0.mk (below_step (by repeat (first | (with_reducible first | exact HB.out | apply below_alloc | apply pw_below_drewN | apply below_drew1 | refine below_set ?_ GE175.out) | exact HB.out)) hb); clear BK175; clear HB; have BK175 := n0_; have HB := n1_; clear n0_ n1_; (try clear hb); (try clear hb2); (try clear hk); (try clear hi)))
  go_ret
  exact ⟨by first | rfl | (simp [errW_none, errW_some] <;> rfl) | (simp [*, errW_none, errW_some] <;> rfl), by repeat (first | (with_reducible first | exact HB.out | apply below_alloc | apply pw_below_drewN | apply below_drew1 | refine below_set ?_ GE175.out) | exact HB.out)⟩

end Go.Proofs.YtijgifinhbbmaaaGreatDoor.Q
