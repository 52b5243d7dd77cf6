-- Written by wip/xprint.py: the machine's side of a function, by program.
import Derived.Test.YtijgifinhbbmaaaGreatDoorQ0
import Derived.Test.YtijgifinhbbmaaaGreatDoorXName
namespace Go.Proofs.YtijgifinhbbmaaaGreatDoor.Q
open Go.RowKit Go.Proofs.YtijgifinhbbmaaaGreatDoorW.PrintWords Go.Proofs.YtijgifinhbbmaaaGreatDoorW.PrintLast Go.Proofs.YtijgifinhbbmaaaGreatDoorW.PrintMore
attribute [local go_sem] max2_int min2_int max_two min_two max_three min_three max_four min_four   -- for this text's walks alone
set_option linter.unusedVariables false
set_option linter.unusedSimpArgs false

/-! ### recipe_counted: function 97 -/
mutual
def recipe_counted.j0 : Nat → Int → Int → Bool → Int → ByteArray → List (S84) → Option (Int)
  | 0, _, _, _, _, _, _ => none
  | k + 1, x1, x2, x7, x107000, x107001, x107002 => if x7 = true then (recipe_counted.j1 k x1 x2 (decide (x1 ≥ 64)) x107000 x107001 x107002) else (recipe_counted.j1 k x1 x2 true x107000 x107001 x107002)
def recipe_counted.j1 : Nat → Int → Int → Bool → Int → ByteArray → List (S84) → Option (Int)
  | 0, _, _, _, _, _, _ => none
  | k + 1, x1, x2, x66, x107000, x107001, x107002 => if x66 = true then (some (-1)) else (recipe_counted.l0 k x1 (wrap64 (x2 - 1)) 0 x107000 x107001 x107002)
def recipe_counted.l0 : Nat → Int → Int → Int → Int → ByteArray → List (S84) → Option (Int)
  | 0, _, _, _, _, _, _ => none
  | k + 1, x1, x2, x8, x107000, x107001, x107002 => if x8 < (x107002.length : Int) then (if x2 ≥ 0 then (if 0 ≤ x8 then ((recipe_counted.f k ((rd_T84 x107002 x8).f0) ((rd_T84 x107002 x8).f1) ((rd_T84 x107002 x8).f2) (wrap64 (x1 + 1)) x2).bind fun t110 => (recipe_counted.l0 k x1 t110 (wrap64 (x8 + 1)) x107000 x107001 x107002)) else (none)) else (some x2)) else (some x2)
def recipe_counted.f : Nat → Int → ByteArray → List (S84) → Int → Int → Option (Int)
  | 0, _, _, _, _, _ => none
  | k + 1, a0_0, a0_1, l0_2, a1, a2 => if a0_0 = 1 then (recipe_counted.j0 k a1 a2 ((l0_2.length : Int) == 0) a0_0 a0_1 l0_2) else (if a0_0 = 2 then (if (l0_2.length : Int) = 0 then ((recipe_Name.f a0_1).bind fun t107 => (recipe_counted.j0 k a1 a2 t107 a0_0 a0_1 l0_2)) else (recipe_counted.j0 k a1 a2 false a0_0 a0_1 l0_2)) else (if a0_0 = 3 then (if (l0_2.length : Int) ≥ 2 then (recipe_counted.j0 k a1 a2 (a0_1.toList == ([] : List UInt8)) a0_0 a0_1 l0_2) else (recipe_counted.j0 k a1 a2 false a0_0 a0_1 l0_2)) else (if a0_0 = 4 then (if (l0_2.length : Int) = 4 then (recipe_counted.j0 k a1 a2 (a0_1.toList == ([] : List UInt8)) a0_0 a0_1 l0_2) else (recipe_counted.j0 k a1 a2 false a0_0 a0_1 l0_2)) else (if a0_0 = 5 then (if (l0_2.length : Int) = 2 then ((recipe_Name.f a0_1).bind fun t108 => (recipe_counted.j0 k a1 a2 t108 a0_0 a0_1 l0_2)) else (recipe_counted.j0 k a1 a2 false a0_0 a0_1 l0_2)) else (recipe_counted.j0 k a1 a2 false a0_0 a0_1 l0_2)))))
end
theorem recipe_counted.mono_l : ∀ k, (∀ y0 y1 y2 y3 y4, LeO (recipe_counted.f k y0 y1 y2 y3 y4) (recipe_counted.f (k + 1) y0 y1 y2 y3 y4)) ∧ (∀ y0 y1 y2 y3 y4 y5, LeO (recipe_counted.j0 k y0 y1 y2 y3 y4 y5) (recipe_counted.j0 (k + 1) y0 y1 y2 y3 y4 y5)) ∧ (∀ y0 y1 y2 y3 y4 y5, LeO (recipe_counted.j1 k y0 y1 y2 y3 y4 y5) (recipe_counted.j1 (k + 1) y0 y1 y2 y3 y4 y5)) ∧ (∀ y0 y1 y2 y3 y4 y5, LeO (recipe_counted.l0 k y0 y1 y2 y3 y4 y5) (recipe_counted.l0 (k + 1) y0 y1 y2 y3 y4 y5))
  | 0 => ⟨fun _ _ _ _ _ r h => by simp [recipe_counted.f] at h, fun _ _ _ _ _ _ r h => by simp [recipe_counted.j0] at h, fun _ _ _ _ _ _ r h => by simp [recipe_counted.j1] at h, fun _ _ _ _ _ _ r h => by simp [recipe_counted.l0] at h⟩
  | k + 1 => by
    obtain ⟨ih0, ih1, ih2, ih3⟩ := recipe_counted.mono_l k
    refine ⟨?_, ?_, ?_, ?_⟩
    · intro y0 y1 y2 y3 y4
      unfold recipe_counted.f
      repeat' first
      | (with_reducible exact ih0 _ _ _ _ _)
      | (with_reducible exact ih1 _ _ _ _ _ _)
      | (with_reducible exact ih2 _ _ _ _ _ _)
      | (with_reducible exact ih3 _ _ _ _ _ _)
      | (with_reducible exact LeO.refl _)
      | (with_reducible exact LeO.none _)
      | (with_reducible refine LeO.ite ?_ ?_)
      | (with_reducible refine LeO.bind ?_ (fun _ => ?_))
      | exact ih0 _ _ _ _ _
      | exact ih1 _ _ _ _ _ _
      | exact ih2 _ _ _ _ _ _
      | exact ih3 _ _ _ _ _ _
      | exact LeO.none _
      | refine LeO.ite ?_ ?_
      | refine LeO.bind ?_ (fun _ => ?_)
    · intro y0 y1 y2 y3 y4 y5
      unfold recipe_counted.j0
      repeat' first
      | (with_reducible exact ih0 _ _ _ _ _)
      | (with_reducible exact ih1 _ _ _ _ _ _)
      | (with_reducible exact ih2 _ _ _ _ _ _)
      | (with_reducible exact ih3 _ _ _ _ _ _)
      | (with_reducible exact LeO.refl _)
      | (with_reducible exact LeO.none _)
      | (with_reducible refine LeO.ite ?_ ?_)
      | (with_reducible refine LeO.bind ?_ (fun _ => ?_))
      | exact ih0 _ _ _ _ _
      | exact ih1 _ _ _ _ _ _
      | exact ih2 _ _ _ _ _ _
      | exact ih3 _ _ _ _ _ _
      | exact LeO.none _
      | refine LeO.ite ?_ ?_
      | refine LeO.bind ?_ (fun _ => ?_)
    · intro y0 y1 y2 y3 y4 y5
      unfold recipe_counted.j1
      repeat' first
      | (with_reducible exact ih0 _ _ _ _ _)
      | (with_reducible exact ih1 _ _ _ _ _ _)
      | (with_reducible exact ih2 _ _ _ _ _ _)
      | (with_reducible exact ih3 _ _ _ _ _ _)
      | (with_reducible exact LeO.refl _)
      | (with_reducible exact LeO.none _)
      | (with_reducible refine LeO.ite ?_ ?_)
      | (with_reducible refine LeO.bind ?_ (fun _ => ?_))
      | exact ih0 _ _ _ _ _
      | exact ih1 _ _ _ _ _ _
      | exact ih2 _ _ _ _ _ _
      | exact ih3 _ _ _ _ _ _
      | exact LeO.none _
      | refine LeO.ite ?_ ?_
      | refine LeO.bind ?_ (fun _ => ?_)
    · intro y0 y1 y2 y3 y4 y5
      unfold recipe_counted.l0
      repeat' first
      | (with_reducible exact ih0 _ _ _ _ _)
      | (with_reducible exact ih1 _ _ _ _ _ _)
      | (with_reducible exact ih2 _ _ _ _ _ _)
      | (with_reducible exact ih3 _ _ _ _ _ _)
      | (with_reducible exact LeO.refl _)
      | (with_reducible exact LeO.none _)
      | (with_reducible refine LeO.ite ?_ ?_)
      | (with_reducible refine LeO.bind ?_ (fun _ => ?_))
      | exact ih0 _ _ _ _ _
      | exact ih1 _ _ _ _ _ _
      | exact ih2 _ _ _ _ _ _
      | exact ih3 _ _ _ _ _ _
      | exact LeO.none _
      | refine LeO.ite ?_ ?_
      | refine LeO.bind ?_ (fun _ => ?_)
theorem recipe_counted.mono : ∀ a0 a1 a2 a3 a4 k, LeO (recipe_counted.f k a0 a1 a2 a3 a4) (recipe_counted.f (k + 1) a0 a1 a2 a3 a4) := by
  intro a0 a1 a2 a3 a4 k
  obtain ⟨ih0, ih1, ih2, ih3⟩ := recipe_counted.mono_l k
  exact ih0 a0 a1 a2 a3 a4
set_option maxHeartbeats 8000000 in
set_option maxRecDepth 100000 in
theorem recipe_counted.calls (k : Nat) : ∀ (a0_0 : Int) (a0_1 : ByteArray) (A0_2 : Option Addr) (c0_2 : Nat) (l0_2 : List (S84)) (a1 : Int) (a2 : Int) (r : Int) (w : World) (hr0_2 : Kd.C k84 w A0_2 l0_2.length l0_2) (hc0_2 : l0_2.length ≤ c0_2) (h : recipe_counted.f k a0_0 a0_1 l0_2 a1 a2 = some r),
    Calls Tryz.prog 97 #[.agg #[.int .i64 a0_0, .string a0_1, .slice A0_2 l0_2.length c0_2], .int .i64 a1, .int .i64 a2] w fun e w' => e = .returned (.int .i64 r) ∧ Below w.heap.size w w' := by
  induction k using Nat.strongRecOn with
  | _ k ih =>
  intro a0_0 a0_1 A0_2 c0_2 l0_2 a1 a2 r w hr0_2 hc0_2 h
  cases k with
  | zero => exact absurd h (by simp [recipe_counted.f])
  | succ k =>
  simp only [recipe_counted.f] at h
  have hu84 := Tryz.underlying84
  have HR0_2 := Aside0.mk hr0_2
  have HC0_2 := Aside0.mk hc0_2
  clear hr0_2 hc0_2
  have HB := Aside0.mk (Below.refl w.heap.size w)
  have H : (if a0_0 = 1 then (recipe_counted.j0 k a1 a2 ((l0_2.length : Int) == 0) a0_0 a0_1 l0_2) else (if a0_0 = 2 then (if (l0_2.length : Int) = 0 then ((recipe_Name.f a0_1).bind fun t107 => (recipe_counted.j0 k a1 a2 t107 a0_0 a0_1 l0_2)) else (recipe_counted.j0 k a1 a2 false a0_0 a0_1 l0_2)) else (if a0_0 = 3 then (if (l0_2.length : Int) ≥ 2 then (recipe_counted.j0 k a1 a2 (a0_1.toList == ([] : List UInt8)) a0_0 a0_1 l0_2) else (recipe_counted.j0 k a1 a2 false a0_0 a0_1 l0_2)) else (if a0_0 = 4 then (if (l0_2.length : Int) = 4 then (recipe_counted.j0 k a1 a2 (a0_1.toList == ([] : List UInt8)) a0_0 a0_1 l0_2) else (recipe_counted.j0 k a1 a2 false a0_0 a0_1 l0_2)) else (if a0_0 = 5 then (if (l0_2.length : Int) = 2 then ((recipe_Name.f a0_1).bind fun t108 => (recipe_counted.j0 k a1 a2 t108 a0_0 a0_1 l0_2)) else (recipe_counted.j0 k a1 a2 false a0_0 a0_1 l0_2)) else (recipe_counted.j0 k a1 a2 false a0_0 a0_1 l0_2)))))) = some r := h
  clear h
  have HC4 := Aside0.mk H
  clear H
  go_enter Tryz.func97, Tryz.ntmps97
  go_upto_block 0 with (first | ((with_reducible refine gate_dst (N := 3) rfl ?_); refine box_event ?hg (N := 3) ?hd (cs := #[.int .i64 a0_0, .string a0_1, .slice A0_2 l0_2.length c0_2]) (t := 84) ?hr ?_; (case hd => rfl); (case hg => rfl); (case hr => first | (go_simp; done) | (go_simp; rfl)); intro gb106 hg w5 hbox hb; have n0_ := Aside0.mk (below_step (by repeat (first | (with_reducible first | exact HB.out | apply below_alloc | apply pw_below_drewN | apply below_drew1) | exact HB.out)) hb); have n1_ := Aside0.mk (hbox); have n2_ := Aside0.mk ((by rw [hg]; exact (below_size (by repeat (first | (with_reducible first | exact HB.out | apply below_alloc | apply pw_below_drewN | apply below_drew1) | exact HB.out))) : w.heap.size ≤ gb106)); have n3_ := Aside0.mk ((by rw [hg]; exact (below_size (by repeat (first | (with_reducible first | exact HB.out | apply below_alloc | apply pw_below_drewN | apply below_drew1) | exact HB.out))) : w.heap.size ≤ gb106)); clear HB; have HB := n0_; have BK106 := n1_; have GW106 := n2_; have GE106 := n3_; clear n0_ n1_ n2_ n3_; clear hb hbox hg; have hcz6_0 : w5.cell? ⟨gb106, 0, none⟩ = some (.int .i64 a0_0) := (blk_cell BK106.out 0).trans rfl; have hcz6_1 : w5.cell? ⟨gb106, 1, none⟩ = some (.string a0_1) := (blk_cell BK106.out 1).trans rfl; have hcz6_2 : w5.cell? ⟨gb106, 2, none⟩ = some (.slice A0_2 l0_2.length c0_2) := (blk_cell BK106.out 2).trans rfl; have hfz6_0 := blk_frozen BK106.out 0; have hfz6_1 := blk_frozen BK106.out 1; have hfz6_2 := blk_frozen BK106.out 2))
  (try simp only [Act.put, List.setIfInBounds_toArray, List.set_cons_zero, List.set_cons_succ])
  go_cut [7] (fun v7 wc => ∃ (kq : Nat) (x7_3 : Bool), v7 = .bool x7_3 ∧ Aside0 (recipe_counted.j0 kq a1 a2 x7_3 a0_0 a0_1 l0_2 = some r) ∧ Aside0 (kq ≤ k) ∧ Aside0 (wc.heap[gb106]? = some (.cells #[.int .i64 a0_0, .string a0_1, (.slice A0_2 l0_2.length c0_2)] 84 (0, 0))) ∧ Aside0 (Below w.heap.size w wc))
  case first =>
    have H := HC4.out
    clear HC4
    by_cases c7 : a0_0 = 1
    · rw [if_pos c7] at H
      have c7b0 : (a0_0 == 1) = true := beq_iff_eq.mpr c7
      have c7b1 : (a0_0 != 1) = false := bne_eq_false_iff_eq.mpr c7
      clear c7
      (first | rw [c7b0] | (simp only [i64_w, i32_w]; rw [c7b0]) | skip)
      have H' := Aside0.mk H
      clear H
      have hcz8_0 : w5.cell? ⟨gb106, 0, none⟩ = some (.int .i64 a0_0) := (blk_cell BK106.out 0).trans rfl
      have hcz8_1 : w5.cell? ⟨gb106, 1, none⟩ = some (.string a0_1) := (blk_cell BK106.out 1).trans rfl
      have hcz8_2 : w5.cell? ⟨gb106, 2, none⟩ = some (.slice A0_2 l0_2.length c0_2) := (blk_cell BK106.out 2).trans rfl
      have hfz8_0 := blk_frozen BK106.out 0
      have hfz8_1 := blk_frozen BK106.out 1
      have hfz8_2 := blk_frozen BK106.out 2
      go_wp2
      go_meet
      case rel => exact ⟨_, (((l0_2.length : Int) == 0)), (by first | rfl | (simp; done) | (simp [*]; done) | (have e_ : ∀ l : List UInt8, (l != []) = !l.isEmpty := (fun l => by cases l <;> rfl); simp [e_]; done)), H', ⟨by first | omega | exact Nat.le_refl _⟩, ⟨by (with_reducible repeat (first | refine blk_drewN ?_ _ | refine blk_drew ?_ | refine blk_alloc ?_ _)); exact BK106.out⟩, ⟨by repeat (first | (with_reducible first | exact HB.out | apply below_alloc | apply pw_below_drewN | apply below_drew1 | refine below_set ?_ GE106.out) | exact HB.out)⟩⟩
    · rw [if_neg c7] at H
      have c7b0 : (a0_0 == 1) = false := beq_eq_false_iff_ne.mpr c7
      have c7b1 : (a0_0 != 1) = true := bne_iff_ne.mpr c7
      (first | rw [c7b0] | (simp only [i64_w, i32_w]; rw [c7b0]) | skip)
      by_cases c9 : a0_0 = 2
      · rw [if_pos c9] at H
        have c9b0 : (a0_0 == 2) = true := beq_iff_eq.mpr c9
        have c9b1 : (a0_0 != 2) = false := bne_eq_false_iff_eq.mpr c9
        clear c9
        by_cases c10 : (l0_2.length : Int) = 0
        · rw [if_pos c10] at H
          have c10b0 : ((l0_2.length : Int) == 0) = true := beq_iff_eq.mpr c10
          have c10b1 : ((l0_2.length : Int) != 0) = false := bne_eq_false_iff_eq.mpr c10
          clear c10
          replace H := Option.bind_eq_some_iff.mp H
          obtain ⟨t107, A110, H⟩ := H
          replace H : (recipe_counted.j0 k a1 a2 t107 a0_0 a0_1 l0_2) = some r := H
          have A11 := Aside0.mk A110
          clear A110
          have H' := Aside0.mk H
          clear H
          have hcz12_0 : w5.cell? ⟨gb106, 0, none⟩ = some (.int .i64 a0_0) := (blk_cell BK106.out 0).trans rfl
          have hcz12_1 : w5.cell? ⟨gb106, 1, none⟩ = some (.string a0_1) := (blk_cell BK106.out 1).trans rfl
          have hcz12_2 : w5.cell? ⟨gb106, 2, none⟩ = some (.slice A0_2 l0_2.length c0_2) := (blk_cell BK106.out 2).trans rfl
          have hfz12_0 := blk_frozen BK106.out 0
          have hfz12_1 := blk_frozen BK106.out 1
          have hfz12_2 := blk_frozen BK106.out 2
          go_wp2_with (first | (go_at_call 145; (with_reducible refine (recipe_Name.calls a0_1 t107 _ A11.out).mono ?_); rintro e w13 ⟨rfl, hb⟩; have n0_ := Aside0.mk (blk_below (g := gb106) (o := .cells #[.int .i64 a0_0, .string a0_1, .slice A0_2 l0_2.length c0_2] 84 (0, 0)) (by (with_reducible repeat (first | refine blk_drewN ?_ _ | refine blk_drew ?_ | refine blk_alloc ?_ _)); exact BK106.out) hb); have n1_ := Aside0.mk (below_step (by repeat (first | (with_reducible first | exact HB.out | apply below_alloc | apply pw_below_drewN | apply below_drew1 | refine below_set ?_ GE106.out) | exact HB.out)) hb); clear BK106; clear HB; have BK106 := n0_; have HB := n1_; clear n0_ n1_; (try clear hb); (try clear hb2); (try clear hk); (try clear hi)))
          go_meet
          case rel => exact ⟨_, (t107), (by first | rfl | (simp; done) | (simp [*]; done) | (have e_ : ∀ l : List UInt8, (l != []) = !l.isEmpty := (fun l => by cases l <;> rfl); simp [e_]; done)), H', ⟨by first | omega | exact Nat.le_refl _⟩, ⟨by (with_reducible repeat (first | refine blk_drewN ?_ _ | refine blk_drew ?_ | refine blk_alloc ?_ _)); exact BK106.out⟩, ⟨by repeat (first | (with_reducible first | exact HB.out | apply below_alloc | apply pw_below_drewN | apply below_drew1 | refine below_set ?_ GE106.out) | exact HB.out)⟩⟩
        · rw [if_neg c10] at H
          have c10b0 : ((l0_2.length : Int) == 0) = false := beq_eq_false_iff_ne.mpr c10
          have c10b1 : ((l0_2.length : Int) != 0) = true := bne_iff_ne.mpr c10
          have c10b2 : ¬ (l0_2 = []) := fun h_ => c10 (by rw [h_]; rfl)
          have H' := Aside0.mk H
          clear H
          have hcz14_0 : w5.cell? ⟨gb106, 0, none⟩ = some (.int .i64 a0_0) := (blk_cell BK106.out 0).trans rfl
          have hcz14_1 : w5.cell? ⟨gb106, 1, none⟩ = some (.string a0_1) := (blk_cell BK106.out 1).trans rfl
          have hcz14_2 : w5.cell? ⟨gb106, 2, none⟩ = some (.slice A0_2 l0_2.length c0_2) := (blk_cell BK106.out 2).trans rfl
          have hfz14_0 := blk_frozen BK106.out 0
          have hfz14_1 := blk_frozen BK106.out 1
          have hfz14_2 := blk_frozen BK106.out 2
          go_wp2
          go_meet
          case rel => exact ⟨_, (false), (by first | rfl | (simp; done) | (simp [*]; done) | (have e_ : ∀ l : List UInt8, (l != []) = !l.isEmpty := (fun l => by cases l <;> rfl); simp [e_]; done)), H', ⟨by first | omega | exact Nat.le_refl _⟩, ⟨by (with_reducible repeat (first | refine blk_drewN ?_ _ | refine blk_drew ?_ | refine blk_alloc ?_ _)); exact BK106.out⟩, ⟨by repeat (first | (with_reducible first | exact HB.out | apply below_alloc | apply pw_below_drewN | apply below_drew1 | refine below_set ?_ GE106.out) | exact HB.out)⟩⟩
      · rw [if_neg c9] at H
        have c9b0 : (a0_0 == 2) = false := beq_eq_false_iff_ne.mpr c9
        have c9b1 : (a0_0 != 2) = true := bne_iff_ne.mpr c9
        by_cases c15 : a0_0 = 3
        · rw [if_pos c15] at H
          have c15b0 : (a0_0 == 3) = true := beq_iff_eq.mpr c15
          have c15b1 : (a0_0 != 3) = false := bne_eq_false_iff_eq.mpr c15
          clear c15
          by_cases c16 : (l0_2.length : Int) ≥ 2
          · rw [if_pos c16] at H
            have c16b0 : decide (2 ≤ (l0_2.length : Int)) = true := decide_eq_true c16
            have c16b1 : decide (2 ≤ l0_2.length) = true := decide_eq_true (by omega)
            clear c16
            have H' := Aside0.mk H
            clear H
            have hcz17_0 : w5.cell? ⟨gb106, 0, none⟩ = some (.int .i64 a0_0) := (blk_cell BK106.out 0).trans rfl
            have hcz17_1 : w5.cell? ⟨gb106, 1, none⟩ = some (.string a0_1) := (blk_cell BK106.out 1).trans rfl
            have hcz17_2 : w5.cell? ⟨gb106, 2, none⟩ = some (.slice A0_2 l0_2.length c0_2) := (blk_cell BK106.out 2).trans rfl
            have hfz17_0 := blk_frozen BK106.out 0
            have hfz17_1 := blk_frozen BK106.out 1
            have hfz17_2 := blk_frozen BK106.out 2
            go_wp2
            go_meet
            case rel => exact ⟨_, ((a0_1.toList == ([] : List UInt8))), (by first | rfl | (simp; done) | (simp [*]; done) | (have e_ : ∀ l : List UInt8, (l != []) = !l.isEmpty := (fun l => by cases l <;> rfl); simp [e_]; done)), H', ⟨by first | omega | exact Nat.le_refl _⟩, ⟨by (with_reducible repeat (first | refine blk_drewN ?_ _ | refine blk_drew ?_ | refine blk_alloc ?_ _)); exact BK106.out⟩, ⟨by repeat (first | (with_reducible first | exact HB.out | apply below_alloc | apply pw_below_drewN | apply below_drew1 | refine below_set ?_ GE106.out) | exact HB.out)⟩⟩
          · rw [if_neg c16] at H
            have c16b0 : decide (2 ≤ (l0_2.length : Int)) = false := decide_eq_false c16
            have c16b1 : decide (2 ≤ l0_2.length) = false := decide_eq_false (by omega)
            clear c16
            have H' := Aside0.mk H
            clear H
            have hcz18_0 : w5.cell? ⟨gb106, 0, none⟩ = some (.int .i64 a0_0) := (blk_cell BK106.out 0).trans rfl
            have hcz18_1 : w5.cell? ⟨gb106, 1, none⟩ = some (.string a0_1) := (blk_cell BK106.out 1).trans rfl
            have hcz18_2 : w5.cell? ⟨gb106, 2, none⟩ = some (.slice A0_2 l0_2.length c0_2) := (blk_cell BK106.out 2).trans rfl
            have hfz18_0 := blk_frozen BK106.out 0
            have hfz18_1 := blk_frozen BK106.out 1
            have hfz18_2 := blk_frozen BK106.out 2
            go_wp2
            go_meet
            case rel => exact ⟨_, (false), (by first | rfl | (simp; done) | (simp [*]; done) | (have e_ : ∀ l : List UInt8, (l != []) = !l.isEmpty := (fun l => by cases l <;> rfl); simp [e_]; done)), H', ⟨by first | omega | exact Nat.le_refl _⟩, ⟨by (with_reducible repeat (first | refine blk_drewN ?_ _ | refine blk_drew ?_ | refine blk_alloc ?_ _)); exact BK106.out⟩, ⟨by repeat (first | (with_reducible first | exact HB.out | apply below_alloc | apply pw_below_drewN | apply below_drew1 | refine below_set ?_ GE106.out) | exact HB.out)⟩⟩
        · rw [if_neg c15] at H
          have c15b0 : (a0_0 == 3) = false := beq_eq_false_iff_ne.mpr c15
          have c15b1 : (a0_0 != 3) = true := bne_iff_ne.mpr c15
          by_cases c19 : a0_0 = 4
          · rw [if_pos c19] at H
            have c19b0 : (a0_0 == 4) = true := beq_iff_eq.mpr c19
            have c19b1 : (a0_0 != 4) = false := bne_eq_false_iff_eq.mpr c19
            clear c19
            by_cases c20 : (l0_2.length : Int) = 4
            · rw [if_pos c20] at H
              have c20b0 : ((l0_2.length : Int) == 4) = true := beq_iff_eq.mpr c20
              have c20b1 : ((l0_2.length : Int) != 4) = false := bne_eq_false_iff_eq.mpr c20
              clear c20
              have H' := Aside0.mk H
              clear H
              have hcz21_0 : w5.cell? ⟨gb106, 0, none⟩ = some (.int .i64 a0_0) := (blk_cell BK106.out 0).trans rfl
              have hcz21_1 : w5.cell? ⟨gb106, 1, none⟩ = some (.string a0_1) := (blk_cell BK106.out 1).trans rfl
              have hcz21_2 : w5.cell? ⟨gb106, 2, none⟩ = some (.slice A0_2 l0_2.length c0_2) := (blk_cell BK106.out 2).trans rfl
              have hfz21_0 := blk_frozen BK106.out 0
              have hfz21_1 := blk_frozen BK106.out 1
              have hfz21_2 := blk_frozen BK106.out 2
              go_wp2
              go_meet
              case rel => exact ⟨_, ((a0_1.toList == ([] : List UInt8))), (by first | rfl | (simp; done) | (simp [*]; done) | (have e_ : ∀ l : List UInt8, (l != []) = !l.isEmpty := (fun l => by cases l <;> rfl); simp [e_]; done)), H', ⟨by first | omega | exact Nat.le_refl _⟩, ⟨by (with_reducible repeat (first | refine blk_drewN ?_ _ | refine blk_drew ?_ | refine blk_alloc ?_ _)); exact BK106.out⟩, ⟨by repeat (first | (with_reducible first | exact HB.out | apply below_alloc | apply pw_below_drewN | apply below_drew1 | refine below_set ?_ GE106.out) | exact HB.out)⟩⟩
            · rw [if_neg c20] at H
              have c20b0 : ((l0_2.length : Int) == 4) = false := beq_eq_false_iff_ne.mpr c20
              have c20b1 : ((l0_2.length : Int) != 4) = true := bne_iff_ne.mpr c20
              have H' := Aside0.mk H
              clear H
              have hcz22_0 : w5.cell? ⟨gb106, 0, none⟩ = some (.int .i64 a0_0) := (blk_cell BK106.out 0).trans rfl
              have hcz22_1 : w5.cell? ⟨gb106, 1, none⟩ = some (.string a0_1) := (blk_cell BK106.out 1).trans rfl
              have hcz22_2 : w5.cell? ⟨gb106, 2, none⟩ = some (.slice A0_2 l0_2.length c0_2) := (blk_cell BK106.out 2).trans rfl
              have hfz22_0 := blk_frozen BK106.out 0
              have hfz22_1 := blk_frozen BK106.out 1
              have hfz22_2 := blk_frozen BK106.out 2
              go_wp2
              go_meet
              case rel => exact ⟨_, (false), (by first | rfl | (simp; done) | (simp [*]; done) | (have e_ : ∀ l : List UInt8, (l != []) = !l.isEmpty := (fun l => by cases l <;> rfl); simp [e_]; done)), H', ⟨by first | omega | exact Nat.le_refl _⟩, ⟨by (with_reducible repeat (first | refine blk_drewN ?_ _ | refine blk_drew ?_ | refine blk_alloc ?_ _)); exact BK106.out⟩, ⟨by repeat (first | (with_reducible first | exact HB.out | apply below_alloc | apply pw_below_drewN | apply below_drew1 | refine below_set ?_ GE106.out) | exact HB.out)⟩⟩
          · rw [if_neg c19] at H
            have c19b0 : (a0_0 == 4) = false := beq_eq_false_iff_ne.mpr c19
            have c19b1 : (a0_0 != 4) = true := bne_iff_ne.mpr c19
            by_cases c23 : a0_0 = 5
            · rw [if_pos c23] at H
              have c23b0 : (a0_0 == 5) = true := beq_iff_eq.mpr c23
              have c23b1 : (a0_0 != 5) = false := bne_eq_false_iff_eq.mpr c23
              clear c23
              by_cases c24 : (l0_2.length : Int) = 2
              · rw [if_pos c24] at H
                have c24b0 : ((l0_2.length : Int) == 2) = true := beq_iff_eq.mpr c24
                have c24b1 : ((l0_2.length : Int) != 2) = false := bne_eq_false_iff_eq.mpr c24
                clear c24
                replace H := Option.bind_eq_some_iff.mp H
                obtain ⟨t108, A250, H⟩ := H
                replace H : (recipe_counted.j0 k a1 a2 t108 a0_0 a0_1 l0_2) = some r := H
                have A25 := Aside0.mk A250
                clear A250
                have H' := Aside0.mk H
                clear H
                have hcz26_0 : w5.cell? ⟨gb106, 0, none⟩ = some (.int .i64 a0_0) := (blk_cell BK106.out 0).trans rfl
                have hcz26_1 : w5.cell? ⟨gb106, 1, none⟩ = some (.string a0_1) := (blk_cell BK106.out 1).trans rfl
                have hcz26_2 : w5.cell? ⟨gb106, 2, none⟩ = some (.slice A0_2 l0_2.length c0_2) := (blk_cell BK106.out 2).trans rfl
                have hfz26_0 := blk_frozen BK106.out 0
                have hfz26_1 := blk_frozen BK106.out 1
                have hfz26_2 := blk_frozen BK106.out 2
                go_wp2_with (first | (go_at_call 145; (with_reducible refine (recipe_Name.calls a0_1 t108 _ A25.out).mono ?_); rintro e w27 ⟨rfl, hb⟩; have n0_ := Aside0.mk (blk_below (g := gb106) (o := .cells #[.int .i64 a0_0, .string a0_1, .slice A0_2 l0_2.length c0_2] 84 (0, 0)) (by (with_reducible repeat (first | refine blk_drewN ?_ _ | refine blk_drew ?_ | refine blk_alloc ?_ _)); exact BK106.out) hb); have n1_ := Aside0.mk (below_step (by repeat (first | (with_reducible first | exact HB.out | apply below_alloc | apply pw_below_drewN | apply below_drew1 | refine below_set ?_ GE106.out) | exact HB.out)) hb); clear BK106; clear HB; have BK106 := n0_; have HB := n1_; clear n0_ n1_; (try clear hb); (try clear hb2); (try clear hk); (try clear hi)))
                go_meet
                case rel => exact ⟨_, (t108), (by first | rfl | (simp; done) | (simp [*]; done) | (have e_ : ∀ l : List UInt8, (l != []) = !l.isEmpty := (fun l => by cases l <;> rfl); simp [e_]; done)), H', ⟨by first | omega | exact Nat.le_refl _⟩, ⟨by (with_reducible repeat (first | refine blk_drewN ?_ _ | refine blk_drew ?_ | refine blk_alloc ?_ _)); exact BK106.out⟩, ⟨by repeat (first | (with_reducible first | exact HB.out | apply below_alloc | apply pw_below_drewN | apply below_drew1 | refine below_set ?_ GE106.out) | exact HB.out)⟩⟩
              · rw [if_neg c24] at H
                have c24b0 : ((l0_2.length : Int) == 2) = false := beq_eq_false_iff_ne.mpr c24
                have c24b1 : ((l0_2.length : Int) != 2) = true := bne_iff_ne.mpr c24
                have H' := Aside0.mk H
                clear H
                have hcz28_0 : w5.cell? ⟨gb106, 0, none⟩ = some (.int .i64 a0_0) := (blk_cell BK106.out 0).trans rfl
                have hcz28_1 : w5.cell? ⟨gb106, 1, none⟩ = some (.string a0_1) := (blk_cell BK106.out 1).trans rfl
                have hcz28_2 : w5.cell? ⟨gb106, 2, none⟩ = some (.slice A0_2 l0_2.length c0_2) := (blk_cell BK106.out 2).trans rfl
                have hfz28_0 := blk_frozen BK106.out 0
                have hfz28_1 := blk_frozen BK106.out 1
                have hfz28_2 := blk_frozen BK106.out 2
                go_wp2
                go_meet
                case rel => exact ⟨_, (false), (by first | rfl | (simp; done) | (simp [*]; done) | (have e_ : ∀ l : List UInt8, (l != []) = !l.isEmpty := (fun l => by cases l <;> rfl); simp [e_]; done)), H', ⟨by first | omega | exact Nat.le_refl _⟩, ⟨by (with_reducible repeat (first | refine blk_drewN ?_ _ | refine blk_drew ?_ | refine blk_alloc ?_ _)); exact BK106.out⟩, ⟨by repeat (first | (with_reducible first | exact HB.out | apply below_alloc | apply pw_below_drewN | apply below_drew1 | refine below_set ?_ GE106.out) | exact HB.out)⟩⟩
            · rw [if_neg c23] at H
              have c23b0 : (a0_0 == 5) = false := beq_eq_false_iff_ne.mpr c23
              have c23b1 : (a0_0 != 5) = true := bne_iff_ne.mpr c23
              have H' := Aside0.mk H
              clear H
              go_wp2
              go_meet
              case rel => exact ⟨_, (false), (by first | rfl | (simp; done) | (simp [*]; done) | (have e_ : ∀ l : List UInt8, (l != []) = !l.isEmpty := (fun l => by cases l <;> rfl); simp [e_]; done)), H', ⟨by first | omega | exact Nat.le_refl _⟩, ⟨by (with_reducible repeat (first | refine blk_drewN ?_ _ | refine blk_drew ?_ | refine blk_alloc ?_ _)); exact BK106.out⟩, ⟨by repeat (first | (with_reducible first | exact HB.out | apply below_alloc | apply pw_below_drewN | apply below_drew1 | refine below_set ?_ GE106.out) | exact HB.out)⟩⟩
  case rest =>
    clear HC4
    try clear c1
    try clear c2
    try clear p2
    try clear c7
    try clear c7b0
    try clear c7b1
    try clear c9
    try clear c9b0
    try clear c9b1
    try clear c10
    try clear c10b0
    try clear c10b1
    try clear c10b2
    try clear c15
    try clear c15b0
    try clear c15b1
    try clear c16
    try clear c16b0
    try clear c16b1
    try clear c19
    try clear c19b0
    try clear c19b1
    try clear c20
    try clear c20b0
    try clear c20b1
    try clear c23
    try clear c23b0
    try clear c23b1
    try clear c24
    try clear c24b0
    try clear c24b1
    try clear hcz12_0
    try clear hcz12_1
    try clear hcz12_2
    try clear hcz14_0
    try clear hcz14_1
    try clear hcz14_2
    try clear hcz17_0
    try clear hcz17_1
    try clear hcz17_2
    try clear hcz18_0
    try clear hcz18_1
    try clear hcz18_2
    try clear hcz21_0
    try clear hcz21_1
    try clear hcz21_2
    try clear hcz22_0
    try clear hcz22_1
    try clear hcz22_2
    try clear hcz26_0
    try clear hcz26_1
    try clear hcz26_2
    try clear hcz28_0
    try clear hcz28_1
    try clear hcz28_2
    try clear hcz6_0
    try clear hcz6_1
    try clear hcz6_2
    try clear hcz8_0
    try clear hcz8_1
    try clear hcz8_2
    try clear hfz12_0
    try clear hfz12_1
    try clear hfz12_2
    try clear hfz14_0
    try clear hfz14_1
    try clear hfz14_2
    try clear hfz17_0
    try clear hfz17_1
    try clear hfz17_2
    try clear hfz18_0
    try clear hfz18_1
    try clear hfz18_2
    try clear hfz21_0
    try clear hfz21_1
    try clear hfz21_2
    try clear hfz22_0
    try clear hfz22_1
    try clear hfz22_2
    try clear hfz26_0
    try clear hfz26_1
    try clear hfz26_2
    try clear hfz28_0
    try clear hfz28_1
    try clear hfz28_2
    try clear hfz6_0
    try clear hfz6_1
    try clear hfz6_2
    try clear hfz8_0
    try clear hfz8_1
    try clear hfz8_2
    obtain ⟨kq, x7_3, rfl, HA, HJ3, BK106, HB⟩ := hcut
    cases kq with
    | zero => exact absurd HA.out (by simp [recipe_counted.j0])
    | succ kj3 =>
      have H := HA.out
      clear HA
      simp only [recipe_counted.j0] at H
      have HC29 := Aside0.mk H
      clear H
      go_upto_region 13 with (fail)
      go_cut [66] (fun v66 wc => ∃ (kq : Nat) (x66_28 : Bool), v66 = .bool x66_28 ∧ Aside0 (recipe_counted.j1 kq a1 a2 x66_28 a0_0 a0_1 l0_2 = some r) ∧ Aside0 (kq ≤ kj3) ∧ Aside0 (wc.heap[gb106]? = some (.cells #[.int .i64 a0_0, .string a0_1, (.slice A0_2 l0_2.length c0_2)] 84 (0, 0))) ∧ Aside0 (Below w.heap.size w wc))
      case first =>
        have H := HC29.out
        clear HC29
        by_cases c30 : x7_3 = true
        · subst c30
          have H1 : (recipe_counted.j1 kj3 a1 a2 (decide (a1 ≥ 64)) a0_0 a0_1 l0_2) = some r := by rw [if_pos rfl] at H; exact H
          clear H
          have H := H1
          clear H1
          have H' := Aside0.mk H
          clear H
          go_wp2
          go_meet
          case rel => exact ⟨_, (decide (a1 ≥ 64)), (by first | rfl | (simp; done) | (simp [*]; done) | (have e_ : ∀ l : List UInt8, (l != []) = !l.isEmpty := (fun l => by cases l <;> rfl); simp [e_]; done)), H', ⟨by have := HJ3.out; first | omega | exact Nat.le_refl _⟩, ⟨by (with_reducible repeat (first | refine blk_drewN ?_ _ | refine blk_drew ?_ | refine blk_alloc ?_ _)); exact BK106.out⟩, ⟨by repeat (first | (with_reducible first | exact HB.out | apply below_alloc | apply pw_below_drewN | apply below_drew1 | refine below_set ?_ GE106.out) | exact HB.out)⟩⟩
        · replace c30 := Bool.eq_false_iff.mpr c30
          subst c30
          have H1 : (recipe_counted.j1 kj3 a1 a2 true a0_0 a0_1 l0_2) = some r := by rw [if_neg (show ¬ (false = true) by decide)] at H; exact H
          clear H
          have H := H1
          clear H1
          have H' := Aside0.mk H
          clear H
          go_wp2
          go_meet
          case rel => exact ⟨_, (true), (by first | rfl | (simp; done) | (simp [*]; done) | (have e_ : ∀ l : List UInt8, (l != []) = !l.isEmpty := (fun l => by cases l <;> rfl); simp [e_]; done)), H', ⟨by have := HJ3.out; first | omega | exact Nat.le_refl _⟩, ⟨by (with_reducible repeat (first | refine blk_drewN ?_ _ | refine blk_drew ?_ | refine blk_alloc ?_ _)); exact BK106.out⟩, ⟨by repeat (first | (with_reducible first | exact HB.out | apply below_alloc | apply pw_below_drewN | apply below_drew1 | refine below_set ?_ GE106.out) | exact HB.out)⟩⟩
      case rest =>
        clear HC29
        try clear c1
        try clear c2
        try clear p2
        try clear c3
        try clear c7
        try clear c7b0
        try clear c7b1
        try clear c9
        try clear c9b0
        try clear c9b1
        try clear c10
        try clear c10b0
        try clear c10b1
        try clear c10b2
        try clear c15
        try clear c15b0
        try clear c15b1
        try clear c16
        try clear c16b0
        try clear c16b1
        try clear c19
        try clear c19b0
        try clear c19b1
        try clear c20
        try clear c20b0
        try clear c20b1
        try clear c23
        try clear c23b0
        try clear c23b1
        try clear c24
        try clear c24b0
        try clear c24b1
        try clear c30
        try clear hcz12_0
        try clear hcz12_1
        try clear hcz12_2
        try clear hcz14_0
        try clear hcz14_1
        try clear hcz14_2
        try clear hcz17_0
        try clear hcz17_1
        try clear hcz17_2
        try clear hcz18_0
        try clear hcz18_1
        try clear hcz18_2
        try clear hcz21_0
        try clear hcz21_1
        try clear hcz21_2
        try clear hcz22_0
        try clear hcz22_1
        try clear hcz22_2
        try clear hcz26_0
        try clear hcz26_1
        try clear hcz26_2
        try clear hcz28_0
        try clear hcz28_1
        try clear hcz28_2
        try clear hcz6_0
        try clear hcz6_1
        try clear hcz6_2
        try clear hcz8_0
        try clear hcz8_1
        try clear hcz8_2
        try clear hfz12_0
        try clear hfz12_1
        try clear hfz12_2
        try clear hfz14_0
        try clear hfz14_1
        try clear hfz14_2
        try clear hfz17_0
        try clear hfz17_1
        try clear hfz17_2
        try clear hfz18_0
        try clear hfz18_1
        try clear hfz18_2
        try clear hfz21_0
        try clear hfz21_1
        try clear hfz21_2
        try clear hfz22_0
        try clear hfz22_1
        try clear hfz22_2
        try clear hfz26_0
        try clear hfz26_1
        try clear hfz26_2
        try clear hfz28_0
        try clear hfz28_1
        try clear hfz28_2
        try clear hfz6_0
        try clear hfz6_1
        try clear hfz6_2
        try clear hfz8_0
        try clear hfz8_1
        try clear hfz8_2
        try clear p2
        obtain ⟨kq, x66_28, rfl, HA, HJ28, BK106, HB⟩ := hcut
        cases kq with
        | zero => exact absurd HA.out (by simp [recipe_counted.j1])
        | succ kj28 =>
          have H := HA.out
          clear HA
          simp only [recipe_counted.j1] at H
          by_cases c31 : x66_28 = true
          · subst c31
            have H1 : (some (-1)) = some r := by rw [if_pos rfl] at H; exact H
            clear H
            have H := H1
            clear H1
            obtain rfl := Option.some.inj H
            go_wp2
            go_ret
            exact ⟨by first | rfl | (simp [errW_none, errW_some] <;> rfl) | (simp [*, errW_none, errW_some] <;> rfl), by repeat (first | (with_reducible first | exact HB.out | apply below_alloc | apply pw_below_drewN | apply below_drew1 | refine below_set ?_ GE106.out) | exact HB.out)⟩
          · replace c31 := Bool.eq_false_iff.mpr c31
            subst c31
            have H1 : (recipe_counted.l0 kj28 a1 (wrap64 (a2 - 1)) 0 a0_0 a0_1 l0_2) = some r := by rw [if_neg (show ¬ (false = true) by decide)] at H; exact H
            clear H
            have H := H1
            clear H1
            have H' := Aside0.mk H
            clear H
            go_wp2
            go_loopg [2, 8] kj28 (fun kq v2 v8 w' => ∃ (x2_3 : Int) (x8_3 : Int), v2 = .int .i64 x2_3 ∧ v8 = .int .i64 x8_3 ∧ Aside0 (recipe_counted.l0 kq a1 x2_3 x8_3 a0_0 a0_1 l0_2 = some r) ∧ Aside0 (kq ≤ kj28) ∧ Aside0 (w'.heap[gb106]? = some (.cells #[.int .i64 a0_0, .string a0_1, (.slice A0_2 l0_2.length c0_2)] 84 (0, 0))) ∧ Aside0 (Below w.heap.size w w'))
            case atStart => exact ⟨(wrap64 (a2 - 1)), (0), (by first | rfl | (simp; done) | (simp [*]; done) | (have e_ : ∀ l : List UInt8, (l != []) = !l.isEmpty := (fun l => by cases l <;> rfl); simp [e_]; done)), (by first | rfl | (simp; done) | (simp [*]; done) | (have e_ : ∀ l : List UInt8, (l != []) = !l.isEmpty := (fun l => by cases l <;> rfl); simp [e_]; done)), H', ⟨Nat.le_refl _⟩, ⟨by (with_reducible repeat (first | refine blk_drewN ?_ _ | refine blk_drew ?_ | refine blk_alloc ?_ _)); exact BK106.out⟩, ⟨by repeat (first | (with_reducible first | exact HB.out | apply below_alloc | apply pw_below_drewN | apply below_drew1 | refine below_set ?_ GE106.out) | exact HB.out)⟩⟩
            case round =>
              clear H'
              try clear c1
              try clear c2
              try clear p2
              try clear c3
              try clear p6
              try clear c7
              try clear c7b0
              try clear c7b1
              try clear c9
              try clear c9b0
              try clear c9b1
              try clear c10
              try clear c10b0
              try clear c10b1
              try clear c10b2
              try clear c15
              try clear c15b0
              try clear c15b1
              try clear c16
              try clear c16b0
              try clear c16b1
              try clear c19
              try clear c19b0
              try clear c19b1
              try clear c20
              try clear c20b0
              try clear c20b1
              try clear c23
              try clear c23b0
              try clear c23b1
              try clear c24
              try clear c24b0
              try clear c24b1
              try clear c30
              try clear c31
              try clear hcz12_0
              try clear hcz12_1
              try clear hcz12_2
              try clear hcz14_0
              try clear hcz14_1
              try clear hcz14_2
              try clear hcz17_0
              try clear hcz17_1
              try clear hcz17_2
              try clear hcz18_0
              try clear hcz18_1
              try clear hcz18_2
              try clear hcz21_0
              try clear hcz21_1
              try clear hcz21_2
              try clear hcz22_0
              try clear hcz22_1
              try clear hcz22_2
              try clear hcz26_0
              try clear hcz26_1
              try clear hcz26_2
              try clear hcz28_0
              try clear hcz28_1
              try clear hcz28_2
              try clear hcz6_0
              try clear hcz6_1
              try clear hcz6_2
              try clear hcz8_0
              try clear hcz8_1
              try clear hcz8_2
              try clear hfz12_0
              try clear hfz12_1
              try clear hfz12_2
              try clear hfz14_0
              try clear hfz14_1
              try clear hfz14_2
              try clear hfz17_0
              try clear hfz17_1
              try clear hfz17_2
              try clear hfz18_0
              try clear hfz18_1
              try clear hfz18_2
              try clear hfz21_0
              try clear hfz21_1
              try clear hfz21_2
              try clear hfz22_0
              try clear hfz22_1
              try clear hfz22_2
              try clear hfz26_0
              try clear hfz26_1
              try clear hfz26_2
              try clear hfz28_0
              try clear hfz28_1
              try clear hfz28_2
              try clear hfz6_0
              try clear hfz6_1
              try clear hfz6_2
              try clear hfz8_0
              try clear hfz8_1
              try clear hfz8_2
              try clear p2
              obtain ⟨x2_3, x8_3, rfl, rfl, HA, HK3, BK106, HB⟩ := hrel
              cases gk with
              | zero => exact absurd HA.out (by simp [recipe_counted.l0])
              | succ k3 =>
                have H := HA.out
                clear HA
                simp only [recipe_counted.l0] at H
                by_cases c32 : x8_3 < (l0_2.length : Int)
                · rw [if_pos c32] at H
                  have c32b0 : decide (x8_3 < (l0_2.length : Int)) = true := decide_eq_true c32
                  clear c32
                  by_cases c33 : x2_3 ≥ 0
                  · rw [if_pos c33] at H
                    have c33b0 : decide (0 ≤ x2_3) = true := decide_eq_true c33
                    clear c33
                    by_cases c34 : 0 ≤ x8_3
                    · rw [if_pos c34] at H
                      have c34b0 : decide (0 ≤ x8_3) = true := decide_eq_true c34
                      clear c34
                      replace H := Option.bind_eq_some_iff.mp H
                      obtain ⟨t110, A350, H⟩ := H
                      replace H : (recipe_counted.l0 k3 a1 t110 (wrap64 (x8_3 + 1)) a0_0 a0_1 l0_2) = some r := H
                      have A35 := Aside0.mk A350
                      clear A350
                      have H' := Aside0.mk H
                      clear H
                      have hcz36_0 : wr.cell? ⟨gb106, 0, none⟩ = some (.int .i64 a0_0) := (blk_cell BK106.out 0).trans rfl
                      have hcz36_1 : wr.cell? ⟨gb106, 1, none⟩ = some (.string a0_1) := (blk_cell BK106.out 1).trans rfl
                      have hcz36_2 : wr.cell? ⟨gb106, 2, none⟩ = some (.slice A0_2 l0_2.length c0_2) := (blk_cell BK106.out 2).trans rfl
                      have hfz36_0 := blk_frozen BK106.out 0
                      have hfz36_1 := blk_frozen BK106.out 1
                      have hfz36_2 := blk_frozen BK106.out 2
                      have p109 : 0 ≤ (x8_3 : Int) := of_decide_eq_true (by first | (with_reducible assumption) | assumption)
                      have q109 : x8_3 < (l0_2.length : Int) := of_decide_eq_true (by first | (with_reducible assumption) | assumption)
                      obtain ⟨ad109, A109_2, c109_2, e109, hx109_0, hx109_1, hx109_2, hl109_2, hi109_2⟩ := at_T84 HR0_2.out x8_3 p109 q109
                      cases e109
                      replace hx109_0 := (HB.out.cell (World.block_lt_of_cell? w _ hx109_0)).trans hx109_0
                      replace hx109_1 := (HB.out.cell (World.block_lt_of_cell? w _ hx109_1)).trans hx109_1
                      replace hx109_2 := (HB.out.cell (World.block_lt_of_cell? w _ hx109_2)).trans hx109_2
                      have HR109_2 := Aside0.mk hi109_2
                      have HC109_2 := Aside0.mk hl109_2
                      clear hi109_2 hl109_2
                      replace p109 := eq_true p109
                      replace q109 := eq_true q109
                      go_wp2_with (first | ((with_reducible refine gate_callee (f := 97) rfl ?_); refine goesL_ (some 88) rfl rfl Tryz.func97 (by kernel_rfl) rfl #[.agg #[.int .i64 ((rd_T84 l0_2 x8_3).f0), .string ((rd_T84 l0_2 x8_3).f1), .slice A109_2 ((rd_T84 l0_2 x8_3).f2).length c109_2], .int .i64 (wrap64 (a1 + 1)), .int .i64 x2_3] rfl (by (try simp only [List.map_toArray, List.map_cons, List.map_nil]); first | done | rfl | (simp only [List.length_drop, List.length_take]; rfl)) ?_; (with_reducible refine (ih k3 (by have := HJ3.out; have := HJ28.out; have := HK3.out; omega) ((rd_T84 l0_2 x8_3).f0) ((rd_T84 l0_2 x8_3).f1) _ _ ((rd_T84 l0_2 x8_3).f2) (wrap64 (a1 + 1)) x2_3 t110 _ ?side1 ?side2 A35.out).mono ?_); (case side1 => repeat (first | exact (Kd.C_below HR109_2.out HB.out) | (with_reducible refine Kd.C_alloc ?_ _) | (with_reducible refine Kd.C_drewN ?_ _) | (with_reducible refine Kd.C_drew ?_))); (case side2 => exact HC109_2.out); rintro e w37 ⟨rfl, hb⟩; refine ⟨_, rfl, ?_⟩; have n0_ := Aside0.mk (blk_below (g := gb106) (o := .cells #[.int .i64 a0_0, .string a0_1, .slice (some ad109) l0_2.length c0_2] 84 (0, 0)) (by (with_reducible repeat (first | refine blk_drewN ?_ _ | refine blk_drew ?_ | refine blk_alloc ?_ _)); exact BK106.out) hb); have n1_ := Aside0.mk (below_step (by repeat (first | (with_reducible first | exact HB.out | apply below_alloc | apply pw_below_drewN | apply below_drew1 | refine below_set ?_ GE106.out) | exact HB.out)) hb); clear BK106; clear HB; have BK106 := n0_; have HB := n1_; clear n0_ n1_; (try clear hb); (try clear hb2); (try clear hk); (try clear hi)))
                      go_roundg k3
                      case measure => have := HJ3.out; have := HJ28.out; have := HK3.out; omega
                      case rel => exact ⟨(t110), (wrap64 (x8_3 + 1)), (by first | rfl | (simp; done) | (simp [*]; done) | (have e_ : ∀ l : List UInt8, (l != []) = !l.isEmpty := (fun l => by cases l <;> rfl); simp [e_]; done)), (by first | rfl | (simp; done) | (simp [*]; done) | (have e_ : ∀ l : List UInt8, (l != []) = !l.isEmpty := (fun l => by cases l <;> rfl); simp [e_]; done)), H', ⟨by have := HJ3.out; have := HJ28.out; have := HK3.out; omega⟩, ⟨by (with_reducible repeat (first | refine blk_drewN ?_ _ | refine blk_drew ?_ | refine blk_alloc ?_ _)); exact BK106.out⟩, ⟨by repeat (first | (with_reducible first | exact HB.out | apply below_alloc | apply pw_below_drewN | apply below_drew1 | refine below_set ?_ GE106.out) | exact HB.out)⟩⟩
                    · rw [if_neg c34] at H
                      exact absurd H (by simp)
                  · rw [if_neg c33] at H
                    have c33b0 : decide (0 ≤ x2_3) = false := decide_eq_false c33
                    clear c33
                    obtain rfl := Option.some.inj H
                    have hcz38_0 : wr.cell? ⟨gb106, 0, none⟩ = some (.int .i64 a0_0) := (blk_cell BK106.out 0).trans rfl
                    have hcz38_1 : wr.cell? ⟨gb106, 1, none⟩ = some (.string a0_1) := (blk_cell BK106.out 1).trans rfl
                    have hcz38_2 : wr.cell? ⟨gb106, 2, none⟩ = some (.slice A0_2 l0_2.length c0_2) := (blk_cell BK106.out 2).trans rfl
                    have hfz38_0 := blk_frozen BK106.out 0
                    have hfz38_1 := blk_frozen BK106.out 1
                    have hfz38_2 := blk_frozen BK106.out 2
                    go_wp2
                    go_ret
                    exact ⟨by first | rfl | (simp [errW_none, errW_some] <;> rfl) | (simp [*, errW_none, errW_some] <;> rfl), by repeat (first | (with_reducible first | exact HB.out | apply below_alloc | apply pw_below_drewN | apply below_drew1 | refine below_set ?_ GE106.out) | exact HB.out)⟩
                · rw [if_neg c32] at H
                  have c32b0 : decide (x8_3 < (l0_2.length : Int)) = false := decide_eq_false c32
                  clear c32
                  obtain rfl := Option.some.inj H
                  have hcz39_0 : wr.cell? ⟨gb106, 0, none⟩ = some (.int .i64 a0_0) := (blk_cell BK106.out 0).trans rfl
                  have hcz39_1 : wr.cell? ⟨gb106, 1, none⟩ = some (.string a0_1) := (blk_cell BK106.out 1).trans rfl
                  have hcz39_2 : wr.cell? ⟨gb106, 2, none⟩ = some (.slice A0_2 l0_2.length c0_2) := (blk_cell BK106.out 2).trans rfl
                  have hfz39_0 := blk_frozen BK106.out 0
                  have hfz39_1 := blk_frozen BK106.out 1
                  have hfz39_2 := blk_frozen BK106.out 2
                  go_wp2
                  go_ret
                  exact ⟨by first | rfl | (simp [errW_none, errW_some] <;> rfl) | (simp [*, errW_none, errW_some] <;> rfl), by repeat (first | (with_reducible first | exact HB.out | apply below_alloc | apply pw_below_drewN | apply below_drew1 | refine below_set ?_ GE106.out) | exact HB.out)⟩

end Go.Proofs.YtijgifinhbbmaaaGreatDoor.Q
-- Written by wip/xprint.py: the machine's side of a function, by program.
namespace Go.Proofs.YtijgifinhbbmaaaGreatDoor.Q
open Go.RowKit Go.Proofs.YtijgifinhbbmaaaGreatDoorW.PrintWords Go.Proofs.YtijgifinhbbmaaaGreatDoorW.PrintLast Go.Proofs.YtijgifinhbbmaaaGreatDoorW.PrintMore
attribute [local go_sem] max2_int min2_int max_two min_two max_three min_three max_four min_four   -- for this text's walks alone
set_option linter.unusedVariables false
set_option linter.unusedSimpArgs false

/-! ### recipe_Good: function 48 -/
def recipe_Good.f (k : Nat) (a0_0 : Int) (a0_1 : ByteArray) (l0_2 : List (S84)) : Option (Bool) := (recipe_counted.f k a0_0 a0_1 l0_2 0 4096).bind fun t112 => (some (decide (t112 ≥ 0)))
theorem recipe_Good.mono : ∀ a0 a1 a2 k, LeO (recipe_Good.f k a0 a1 a2) (recipe_Good.f (k + 1) a0 a1 a2) := by
  intro a0 a1 a2 k
  unfold recipe_Good.f
  repeat' first
      | (with_reducible exact recipe_counted.mono _ _ _ _ _ _)
      | (with_reducible exact LeO.refl _)
      | (with_reducible exact LeO.none _)
      | (with_reducible refine LeO.ite ?_ ?_)
      | (with_reducible refine LeO.bind ?_ (fun _ => ?_))
      | exact recipe_counted.mono _ _ _ _ _ _
      | exact LeO.none _
      | refine LeO.ite ?_ ?_
      | refine LeO.bind ?_ (fun _ => ?_)
set_option maxHeartbeats 8000000 in
set_option maxRecDepth 100000 in
theorem recipe_Good.calls (k : Nat) (a0_0 : Int) (a0_1 : ByteArray) (A0_2 : Option Addr) (c0_2 : Nat) (l0_2 : List (S84)) (r : Bool) (w : World) (hr0_2 : Kd.C k84 w A0_2 l0_2.length l0_2) (hc0_2 : l0_2.length ≤ c0_2) (h : recipe_Good.f k a0_0 a0_1 l0_2 = some r) :
    Calls Tryz.prog 48 #[.agg #[.int .i64 a0_0, .string a0_1, .slice A0_2 l0_2.length c0_2]] w fun e w' => e = .returned (.bool r) ∧ Below w.heap.size w w' := by
  have hu84 := Tryz.underlying84
  have HR0_2 := Aside0.mk hr0_2
  have HC0_2 := Aside0.mk hc0_2
  clear hr0_2 hc0_2
  have HB := Aside0.mk (Below.refl w.heap.size w)
  have H : ((recipe_counted.f k a0_0 a0_1 l0_2 0 4096).bind fun t112 => (some (decide (t112 ≥ 0)))) = some r := h
  clear h
  replace H := Option.bind_eq_some_iff.mp H
  obtain ⟨t112, A20, H⟩ := H
  replace H : (some (decide (t112 ≥ 0))) = some r := H
  have A2 := Aside0.mk A20
  clear A20
  obtain rfl := Option.some.inj H
  go_enter Tryz.func48, Tryz.ntmps48
  go_wp2_with (first | ((with_reducible refine gate_dst (N := 1) rfl ?_); refine box_event ?hg (N := 1) ?hd (cs := #[.int .i64 a0_0, .string a0_1, .slice A0_2 l0_2.length c0_2]) (t := 84) ?hr ?_; (case hd => rfl); (case hg => rfl); (case hr => first | (go_simp; done) | (go_simp; rfl)); intro gb111 hg w3 hbox hb; have n0_ := Aside0.mk (below_step (by repeat (first | (with_reducible first | exact HB.out | apply below_alloc | apply pw_below_drewN | apply below_drew1) | exact HB.out)) hb); have n1_ := Aside0.mk (hbox); have n2_ := Aside0.mk ((by rw [hg]; exact (below_size (by repeat (first | (with_reducible first | exact HB.out | apply below_alloc | apply pw_below_drewN | apply below_drew1) | exact HB.out))) : w.heap.size ≤ gb111)); have n3_ := Aside0.mk ((by rw [hg]; exact (below_size (by repeat (first | (with_reducible first | exact HB.out | apply below_alloc | apply pw_below_drewN | apply below_drew1) | exact HB.out))) : w.heap.size ≤ gb111)); clear HB; have HB := n0_; have BK111 := n1_; have GW111 := n2_; have GE111 := n3_; clear n0_ n1_ n2_ n3_; clear hb hbox hg; have hcz4_0 : w3.cell? ⟨gb111, 0, none⟩ = some (.int .i64 a0_0) := (blk_cell BK111.out 0).trans rfl; have hcz4_1 : w3.cell? ⟨gb111, 1, none⟩ = some (.string a0_1) := (blk_cell BK111.out 1).trans rfl; have hcz4_2 : w3.cell? ⟨gb111, 2, none⟩ = some (.slice A0_2 l0_2.length c0_2) := (blk_cell BK111.out 2).trans rfl; have hfz4_0 := blk_frozen BK111.out 0; have hfz4_1 := blk_frozen BK111.out 1; have hfz4_2 := blk_frozen BK111.out 2) | ((with_reducible refine gate_callee (f := 97) rfl ?_); refine goesL_ (some 4) rfl rfl Tryz.func97 (by kernel_rfl) rfl #[.agg #[.int .i64 a0_0, .string a0_1, .slice A0_2 l0_2.length c0_2], .int .i64 0, .int .i64 4096] rfl (by (try simp only [List.map_toArray, List.map_cons, List.map_nil]); first | done | rfl | (simp only [List.length_drop, List.length_take]; rfl)) ?_; (with_reducible refine (recipe_counted.calls k a0_0 a0_1 _ _ l0_2 0 4096 t112 _ ?side1 ?side2 A2.out).mono ?_); (case side1 => repeat (first | exact (Kd.C_below HR0_2.out HB.out) | (with_reducible refine Kd.C_alloc ?_ _) | (with_reducible refine Kd.C_drewN ?_ _) | (with_reducible refine Kd.C_drew ?_))); (case side2 => exact HC0_2.out); rintro e w5 ⟨rfl, hb⟩; refine ⟨_, rfl, ?_⟩; have n0_ := Aside0.mk (blk_below (g := gb111) (o := .cells #[.int .i64 a0_0, .string a0_1, .slice A0_2 l0_2.length c0_2] 84 (0, 0)) (by (with_reducible repeat (first | refine blk_drewN ?_ _ | refine blk_drew ?_ | refine blk_alloc ?_ _)); exact BK111.out) hb); have n1_ := Aside0.mk (below_step (by repeat (first | (with_reducible first | exact HB.out | apply below_alloc | apply pw_below_drewN | apply below_drew1 | refine below_set ?_ GE111.out) | exact HB.out)) hb); clear BK111; clear HB; have BK111 := n0_; have HB := n1_; clear n0_ n1_; (try clear hb); (try clear hb2); (try clear hk); (try clear hi)))
  go_ret
  exact ⟨by first | rfl | (simp [errW_none, errW_some] <;> rfl) | (simp [*, errW_none, errW_some] <;> rfl), by repeat (first | (with_reducible first | exact HB.out | apply below_alloc | apply pw_below_drewN | apply below_drew1 | refine below_set ?_ GE111.out) | exact HB.out)⟩

end Go.Proofs.YtijgifinhbbmaaaGreatDoor.Q
