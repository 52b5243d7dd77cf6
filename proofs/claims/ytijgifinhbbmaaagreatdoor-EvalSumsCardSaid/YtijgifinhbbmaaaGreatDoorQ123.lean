-- Written by wip/xprint.py: the machine's side of a function, by program.
import Derived.Test.YtijgifinhbbmaaaGreatDoorQ0
import Derived.Test.YtijgifinhbbmaaaGreatDoorQ110
namespace Go.Proofs.YtijgifinhbbmaaaGreatDoor.Q
open Go.RowKit Go.Proofs.YtijgifinhbbmaaaGreatDoorW.PrintWords Go.Proofs.YtijgifinhbbmaaaGreatDoorW.PrintLast Go.Proofs.YtijgifinhbbmaaaGreatDoorW.PrintMore
attribute [local go_sem] max2_int min2_int max_two min_two max_three min_three max_four min_four   -- for this text's walks alone
set_option linter.unusedVariables false
set_option linter.unusedSimpArgs false

/-! ### saplinglaw13_put: function 50 -/
mutual
def saplinglaw13_put.j0 : Nat → ByteArray → ByteArray → Bool → Int → ByteArray → List (S84) → Option (Int × ByteArray × (List (S84)))
  | 0, _, _, _, _, _, _ => none
  | k + 1, x1, x2, x18, x245000, x245001, x245002 => if x18 = true then ((saplinglaw13_text.f x2).bind fun bt246 => (some (bt246.1, bt246.2.1, bt246.2.2))) else (saplinglaw13_put.l0 k x1 x2 x245002 (x245002.length : Int) 0 x245000 x245001 x245002 x245000 x245001 ([] : List (S84)))
def saplinglaw13_put.l0 : Nat → ByteArray → ByteArray → List (S84) → Int → Int → Int → ByteArray → List (S84) → Int → ByteArray → List (S84) → Option (Int × ByteArray × (List (S84)))
  | 0, _, _, _, _, _, _, _, _, _, _, _ => none
  | k + 1, x1, x2, x27, x28, x29, x245000, x245001, x245002, x252000, x252001, x252002 => if x29 < x28 then (if 0 ≤ x29 then (if x29 < (x27.length : Int) then (if x245000 = 5 then (if x245001.toList = x1.toList then (if x29 = 1 then (if x252002.length < 2932031007402 then (saplinglaw13_put.l0 k x1 x2 x27 x28 (wrap64 (x29 + 1)) x245000 x245001 x245002 x252000 x252001 (x252002 ++ [(⟨(rd_T84 x27 x29).f0, (rd_T84 x27 x29).f1, (rd_T84 x27 x29).f2⟩ : S84)])) else (none)) else ((saplinglaw13_put.f k ((rd_T84 x27 x29).f0) ((rd_T84 x27 x29).f1) ((rd_T84 x27 x29).f2) x1 x2).bind fun bt257 => (if x252002.length < 2932031007402 then (saplinglaw13_put.l0 k x1 x2 x27 x28 (wrap64 (x29 + 1)) x245000 x245001 x245002 x252000 x252001 (x252002 ++ [(⟨bt257.1, bt257.2.1, bt257.2.2⟩ : S84)])) else (none)))) else ((saplinglaw13_put.f k ((rd_T84 x27 x29).f0) ((rd_T84 x27 x29).f1) ((rd_T84 x27 x29).f2) x1 x2).bind fun bt265 => (if x252002.length < 2932031007402 then (saplinglaw13_put.l0 k x1 x2 x27 x28 (wrap64 (x29 + 1)) x245000 x245001 x245002 x252000 x252001 (x252002 ++ [(⟨bt265.1, bt265.2.1, bt265.2.2⟩ : S84)])) else (none)))) else ((saplinglaw13_put.f k ((rd_T84 x27 x29).f0) ((rd_T84 x27 x29).f1) ((rd_T84 x27 x29).f2) x1 x2).bind fun bt273 => (if x252002.length < 2932031007402 then (saplinglaw13_put.l0 k x1 x2 x27 x28 (wrap64 (x29 + 1)) x245000 x245001 x245002 x252000 x252001 (x252002 ++ [(⟨bt273.1, bt273.2.1, bt273.2.2⟩ : S84)])) else (none)))) else (none)) else (none)) else (some (x252000, x252001, x252002))
def saplinglaw13_put.f : Nat → Int → ByteArray → List (S84) → ByteArray → ByteArray → Option (Int × ByteArray × (List (S84)))
  | 0, _, _, _, _, _ => none
  | k + 1, a0_0, a0_1, l0_2, a1, a2 => if a0_0 = 2 then (saplinglaw13_put.j0 k a1 a2 (a0_1.toList == a1.toList) a0_0 a0_1 l0_2) else (saplinglaw13_put.j0 k a1 a2 false a0_0 a0_1 l0_2)
end
theorem saplinglaw13_put.mono_l : ∀ k, (∀ y0 y1 y2 y3 y4, LeO (saplinglaw13_put.f k y0 y1 y2 y3 y4) (saplinglaw13_put.f (k + 1) y0 y1 y2 y3 y4)) ∧ (∀ y0 y1 y2 y3 y4 y5, LeO (saplinglaw13_put.j0 k y0 y1 y2 y3 y4 y5) (saplinglaw13_put.j0 (k + 1) y0 y1 y2 y3 y4 y5)) ∧ (∀ y0 y1 y2 y3 y4 y5 y6 y7 y8 y9 y10, LeO (saplinglaw13_put.l0 k y0 y1 y2 y3 y4 y5 y6 y7 y8 y9 y10) (saplinglaw13_put.l0 (k + 1) y0 y1 y2 y3 y4 y5 y6 y7 y8 y9 y10))
  | 0 => ⟨fun _ _ _ _ _ r h => by simp [saplinglaw13_put.f] at h, fun _ _ _ _ _ _ r h => by simp [saplinglaw13_put.j0] at h, fun _ _ _ _ _ _ _ _ _ _ _ r h => by simp [saplinglaw13_put.l0] at h⟩
  | k + 1 => by
    obtain ⟨ih0, ih1, ih2⟩ := saplinglaw13_put.mono_l k
    refine ⟨?_, ?_, ?_⟩
    · intro y0 y1 y2 y3 y4
      unfold saplinglaw13_put.f
      repeat' first
      | (with_reducible exact ih0 _ _ _ _ _)
      | (with_reducible exact ih1 _ _ _ _ _ _)
      | (with_reducible exact ih2 _ _ _ _ _ _ _ _ _ _ _)
      | (with_reducible exact LeO.refl _)
      | (with_reducible exact LeO.none _)
      | (with_reducible refine LeO.ite ?_ ?_)
      | (with_reducible refine LeO.bind ?_ (fun _ => ?_))
      | exact ih0 _ _ _ _ _
      | exact ih1 _ _ _ _ _ _
      | exact ih2 _ _ _ _ _ _ _ _ _ _ _
      | exact LeO.none _
      | refine LeO.ite ?_ ?_
      | refine LeO.bind ?_ (fun _ => ?_)
    · intro y0 y1 y2 y3 y4 y5
      unfold saplinglaw13_put.j0
      repeat' first
      | (with_reducible exact ih0 _ _ _ _ _)
      | (with_reducible exact ih1 _ _ _ _ _ _)
      | (with_reducible exact ih2 _ _ _ _ _ _ _ _ _ _ _)
      | (with_reducible exact LeO.refl _)
      | (with_reducible exact LeO.none _)
      | (with_reducible refine LeO.ite ?_ ?_)
      | (with_reducible refine LeO.bind ?_ (fun _ => ?_))
      | exact ih0 _ _ _ _ _
      | exact ih1 _ _ _ _ _ _
      | exact ih2 _ _ _ _ _ _ _ _ _ _ _
      | exact LeO.none _
      | refine LeO.ite ?_ ?_
      | refine LeO.bind ?_ (fun _ => ?_)
    · intro y0 y1 y2 y3 y4 y5 y6 y7 y8 y9 y10
      unfold saplinglaw13_put.l0
      repeat' first
      | (with_reducible exact ih0 _ _ _ _ _)
      | (with_reducible exact ih1 _ _ _ _ _ _)
      | (with_reducible exact ih2 _ _ _ _ _ _ _ _ _ _ _)
      | (with_reducible exact LeO.refl _)
      | (with_reducible exact LeO.none _)
      | (with_reducible refine LeO.ite ?_ ?_)
      | (with_reducible refine LeO.bind ?_ (fun _ => ?_))
      | exact ih0 _ _ _ _ _
      | exact ih1 _ _ _ _ _ _
      | exact ih2 _ _ _ _ _ _ _ _ _ _ _
      | exact LeO.none _
      | refine LeO.ite ?_ ?_
      | refine LeO.bind ?_ (fun _ => ?_)
theorem saplinglaw13_put.mono : ∀ a0 a1 a2 a3 a4 k, LeO (saplinglaw13_put.f k a0 a1 a2 a3 a4) (saplinglaw13_put.f (k + 1) a0 a1 a2 a3 a4) := by
  intro a0 a1 a2 a3 a4 k
  obtain ⟨ih0, ih1, ih2⟩ := saplinglaw13_put.mono_l k
  exact ih0 a0 a1 a2 a3 a4
def saplinglaw13_put.T9 : Bool × List (List Nat × List Nat) := (true, [([], []), ([0], [0]), ([], []), ([], []), ([], []), ([2, 3, 4], [2, 3, 4]), ([5], [5]), ([1, 6, 5], [1, 6]), ([0, 1, 2, 3, 4, 5, 6, 7], []), ([8, 7, 7, 0, 1, 2, 3, 4, 5, 6, 7], [7, 8])])
def saplinglaw13_put.B9 : List Nat := [0, 1, 0, 0, 0, 28, 60, 127, 255, 511]
theorem saplinglaw13_put.tab9 : rtab .any (opsOf Tryz.f50 9) = saplinglaw13_put.T9 := by kernel_rfl
theorem saplinglaw13_put.bits9 : waitsOk saplinglaw13_put.T9.2 saplinglaw13_put.B9 = true := by kernel_rfl
set_option maxHeartbeats 8000000 in
set_option maxRecDepth 100000 in
theorem saplinglaw13_put.calls (k : Nat) : ∀ (a0_0 : Int) (a0_1 : ByteArray) (P0_2_ : Nat → Prop) (A0_2 : Option Addr) (c0_2 : Nat) (l0_2 : List (S84)) (a1 : ByteArray) (a2 : ByteArray) (r1 : Int) (r2 : ByteArray) (r3 : List (S84)) (w : World) (hs0_2 : Kd.V k84 84 w w.heap.size (fun k_ => P0_2_ k_) (.slice A0_2 l0_2.length c0_2) l0_2) (h : saplinglaw13_put.f k a0_0 a0_1 l0_2 a1 a2 = some (r1, r2, r3)),
    Calls Tryz.prog 50 #[.agg #[.int .i64 a0_0, .string a0_1, .slice A0_2 l0_2.length c0_2], .string a1, .string a2] w fun e w' => ∃ v2_ : Value, e = .returned (.agg #[.int .i64 r1, .string r2, v2_]) ∧ Kd.N k84 84 w' w.heap.size (fun k_ => (P0_2_ k_ ∨ w.heap.size ≤ k_)) v2_ r3 ∧ Below w.heap.size w w' := by
  induction k using Nat.strongRecOn with
  | _ k ih =>
  intro a0_0 a0_1 P0_2_ A0_2 c0_2 l0_2 a1 a2 r1 r2 r3 w hs0_2 h
  cases k with
  | zero => exact absurd h (by simp [saplinglaw13_put.f])
  | succ k =>
  simp only [saplinglaw13_put.f] at h
  have hu84 := Tryz.underlying84
  have HO0_2 := Aside0.mk (show Kd.V k84 84 w w.heap.size (fun k_ => (P0_2_ k_ ∨ w.heap.size ≤ k_)) (.slice A0_2 l0_2.length c0_2) l0_2 from Kd.V_mono hs0_2 (fun k_ hk => .inl hk))
  have HB := Aside0.mk (Below.refl w.heap.size w)
  have H : (if a0_0 = 2 then (saplinglaw13_put.j0 k a1 a2 (a0_1.toList == a1.toList) a0_0 a0_1 l0_2) else (saplinglaw13_put.j0 k a1 a2 false a0_0 a0_1 l0_2)) = some (r1, r2, r3) := h
  clear h
  have HC4 := Aside0.mk H
  clear H
  go_enter Tryz.func50, Tryz.ntmps50
  go_upto_region 1 with (first | ((with_reducible refine gate_dst (N := 3) rfl ?_); refine box_event ?hg (N := 3) ?hd (cs := #[.int .i64 a0_0, .string a0_1, .slice A0_2 l0_2.length c0_2]) (t := 84) ?hr ?_; (case hd => rfl); (case hg => rfl); (case hr => first | (go_simp; done) | (go_simp; rfl)); intro gb244 hg w5 hbox hb; have n0_ := Aside0.mk (Kd.V_below (Kd.V_elderB (by (with_reducible repeat (first | apply Kd.V_alloc | apply Kd.V_drewN | apply Kd.V_drew)); exact HO0_2.out) gb244 (Nat.le_of_eq hg.symm)) hb); have n1_ := Aside0.mk (below_step (by repeat (first | (with_reducible first | exact HB.out | apply below_alloc | apply pw_below_drewN | apply below_drew1) | exact HB.out)) hb); have n2_ := Aside0.mk (hbox); have n3_ := Aside0.mk ((by rw [hg]; exact (below_size (by repeat (first | (with_reducible first | exact HB.out | apply below_alloc | apply pw_below_drewN | apply below_drew1) | exact HB.out))) : w.heap.size ≤ gb244)); have n4_ := Aside0.mk ((by rw [hg]; exact (below_size (by repeat (first | (with_reducible first | exact HB.out | apply below_alloc | apply pw_below_drewN | apply below_drew1) | exact HB.out))) : w.heap.size ≤ gb244)); clear HO0_2; clear HB; have HO0_2 := n0_; have HB := n1_; have BK244 := n2_; have GW244 := n3_; have GE244 := n4_; clear n0_ n1_ n2_ n3_ n4_; clear hb hbox hg) | ((with_reducible refine gate_dst (N := 6) rfl ?_); refine box_event ?hg (N := 6) ?hd (cs := #[.int .i64 0, .string (⟨#[]⟩ : ByteArray), .slice none 0 0]) (t := 84) ?hr ?_; (case hd => rfl); (case hg => rfl); (case hr => first | (go_simp; done) | (go_simp; rfl)); intro gb245 hg w6 hbox hb; have n0_ := Aside0.mk (Kd.V_below (Kd.V_elderB (by (with_reducible repeat (first | apply Kd.V_alloc | apply Kd.V_drewN | apply Kd.V_drew)); exact HO0_2.out) gb245 (Nat.le_of_eq hg.symm)) hb); have n1_ := Aside0.mk (blk_below (g := gb244) (o := .cells #[.int .i64 a0_0, .string a0_1, .slice A0_2 l0_2.length c0_2] 84 (0, 0)) (by (with_reducible repeat (first | refine blk_drewN ?_ _ | refine blk_drew ?_ | refine blk_alloc ?_ _)); exact BK244.out) hb); have n2_ := Aside0.mk (below_step (by repeat (first | (with_reducible first | exact HB.out | apply below_alloc | apply pw_below_drewN | apply below_drew1 | refine below_set ?_ GE244.out) | exact HB.out)) hb); have n3_ := Aside0.mk (hbox); have n4_ := Aside0.mk ((by rw [hg]; exact (below_size (by repeat (first | (with_reducible first | exact HB.out | apply below_alloc | apply pw_below_drewN | apply below_drew1 | refine below_set ?_ GE244.out) | exact HB.out))) : w.heap.size ≤ gb245)); have n5_ := Aside0.mk ((by rw [hg]; exact (below_size (by repeat (first | (with_reducible first | exact HB.out | apply below_alloc | apply pw_below_drewN | apply below_drew1 | refine below_set ?_ GE244.out) | exact HB.out))) : w.heap.size ≤ gb245)); have n6_ := Aside0.mk ((by rw [hg]; exact Nat.ne_of_lt (blk_lt (g := gb244) (o := .cells #[.int .i64 a0_0, .string a0_1, .slice A0_2 l0_2.length c0_2] 84 (0, 0)) (by (with_reducible repeat (first | refine blk_drewN ?_ _ | refine blk_drew ?_ | refine blk_alloc ?_ _)); exact BK244.out)) : gb244 ≠ gb245)); have n7_ := Aside0.mk ((by rw [hg]; exact Nat.ne_of_gt (blk_lt (g := gb244) (o := .cells #[.int .i64 a0_0, .string a0_1, .slice A0_2 l0_2.length c0_2] 84 (0, 0)) (by (with_reducible repeat (first | refine blk_drewN ?_ _ | refine blk_drew ?_ | refine blk_alloc ?_ _)); exact BK244.out)) : gb245 ≠ gb244)); clear HO0_2; clear BK244; clear HB; have HO0_2 := n0_; have BK244 := n1_; have HB := n2_; have BK245 := n3_; have GW245 := n4_; have GE245 := n5_; have NB244_245 := n6_; have NB245_244 := n7_; clear n0_ n1_ n2_ n3_ n4_ n5_ n6_ n7_; clear hb hbox hg))
  (try simp only [Act.put, List.setIfInBounds_toArray, List.set_cons_zero, List.set_cons_succ])
  go_cut [18] (fun v18 wc => ∃ (kq : Nat) (x18_3 : Bool), v18 = .bool x18_3 ∧ Aside0 (saplinglaw13_put.j0 kq a1 a2 x18_3 a0_0 a0_1 l0_2 = some (r1, r2, r3)) ∧ Aside0 (kq ≤ k) ∧ Aside0 (Kd.V k84 84 wc w.heap.size (fun k_ => (P0_2_ k_ ∨ w.heap.size ≤ k_) ∧ k_ ≠ gb244 ∧ k_ ≠ gb245) (.slice A0_2 l0_2.length c0_2) l0_2) ∧ Aside0 (wc.heap[gb244]? = some (.cells #[.int .i64 a0_0, .string a0_1, (.slice A0_2 l0_2.length c0_2)] 84 (0, 0))) ∧ Aside0 (wc.heap[gb245]? = some (.cells #[.int .i64 0, .string (⟨#[]⟩ : ByteArray), (.slice none 0 0)] 84 (0, 0))) ∧ Aside0 (Below w.heap.size w wc))
  case first =>
    have H := HC4.out
    clear HC4
    by_cases c7 : a0_0 = 2
    · rw [if_pos c7] at H
      have c7b0 : (a0_0 == 2) = true := beq_iff_eq.mpr c7
      have c7b1 : (a0_0 != 2) = false := bne_eq_false_iff_eq.mpr c7
      clear c7
      (first | rw [c7b0] | (simp only [i64_w, i32_w]; rw [c7b0]) | skip)
      have H' := Aside0.mk H
      clear H
      have hnb8 := NB244_245.out
      have hnc8 := NB245_244.out
      have hcz9_0 : w6.cell? ⟨gb244, 0, none⟩ = some (.int .i64 a0_0) := (blk_cell BK244.out 0).trans rfl
      have hcz9_1 : w6.cell? ⟨gb244, 1, none⟩ = some (.string a0_1) := (blk_cell BK244.out 1).trans rfl
      have hcz9_2 : w6.cell? ⟨gb244, 2, none⟩ = some (.slice A0_2 l0_2.length c0_2) := (blk_cell BK244.out 2).trans rfl
      have hfz9_0 := blk_frozen BK244.out 0
      have hfz9_1 := blk_frozen BK244.out 1
      have hfz9_2 := blk_frozen BK244.out 2
      go_wp2
      go_meet
      case rel => exact ⟨_, ((a0_1.toList == a1.toList)), (by first | rfl | (simp; done) | (simp [*]; done) | (have e_ : ∀ l : List UInt8, (l != []) = !l.isEmpty := (fun l => by cases l <;> rfl); simp [e_]; done)), H', ⟨by first | omega | exact Nat.le_refl _⟩, ⟨by (with_reducible repeat (first | apply Kd.V_alloc | apply Kd.V_drewN | apply Kd.V_drew)); exact Kd.V_mono HO0_2.out (fun _ hk => ⟨hk.1.1, ⟨hk.1.2, hk.2⟩⟩)⟩, ⟨by (with_reducible repeat (first | refine blk_drewN ?_ _ | refine blk_drew ?_ | refine blk_alloc ?_ _)); exact BK244.out⟩, ⟨by (with_reducible repeat (first | refine blk_drewN ?_ _ | refine blk_drew ?_ | refine blk_alloc ?_ _)); exact BK245.out⟩, ⟨by repeat (first | (with_reducible first | exact HB.out | apply below_alloc | apply pw_below_drewN | apply below_drew1 | refine below_set ?_ GE244.out | refine below_set ?_ GE245.out) | exact HB.out)⟩⟩
    · rw [if_neg c7] at H
      have c7b0 : (a0_0 == 2) = false := beq_eq_false_iff_ne.mpr c7
      have c7b1 : (a0_0 != 2) = true := bne_iff_ne.mpr c7
      (first | rw [c7b0] | (simp only [i64_w, i32_w]; rw [c7b0]) | skip)
      have H' := Aside0.mk H
      clear H
      have hnb10 := NB244_245.out
      have hnc10 := NB245_244.out
      have hcz11_0 : w6.cell? ⟨gb244, 0, none⟩ = some (.int .i64 a0_0) := (blk_cell BK244.out 0).trans rfl
      have hcz11_1 : w6.cell? ⟨gb244, 1, none⟩ = some (.string a0_1) := (blk_cell BK244.out 1).trans rfl
      have hcz11_2 : w6.cell? ⟨gb244, 2, none⟩ = some (.slice A0_2 l0_2.length c0_2) := (blk_cell BK244.out 2).trans rfl
      have hfz11_0 := blk_frozen BK244.out 0
      have hfz11_1 := blk_frozen BK244.out 1
      have hfz11_2 := blk_frozen BK244.out 2
      go_wp2
      go_meet
      case rel => exact ⟨_, (false), (by first | rfl | (simp; done) | (simp [*]; done) | (have e_ : ∀ l : List UInt8, (l != []) = !l.isEmpty := (fun l => by cases l <;> rfl); simp [e_]; done)), H', ⟨by first | omega | exact Nat.le_refl _⟩, ⟨by (with_reducible repeat (first | apply Kd.V_alloc | apply Kd.V_drewN | apply Kd.V_drew)); exact Kd.V_mono HO0_2.out (fun _ hk => ⟨hk.1.1, ⟨hk.1.2, hk.2⟩⟩)⟩, ⟨by (with_reducible repeat (first | refine blk_drewN ?_ _ | refine blk_drew ?_ | refine blk_alloc ?_ _)); exact BK244.out⟩, ⟨by (with_reducible repeat (first | refine blk_drewN ?_ _ | refine blk_drew ?_ | refine blk_alloc ?_ _)); exact BK245.out⟩, ⟨by repeat (first | (with_reducible first | exact HB.out | apply below_alloc | apply pw_below_drewN | apply below_drew1 | refine below_set ?_ GE244.out | refine below_set ?_ GE245.out) | exact HB.out)⟩⟩
  case rest =>
    clear HC4
    try clear c1
    try clear p2
    try clear c5
    try clear c7
    try clear c7b0
    try clear c7b1
    try clear c8
    try clear c10
    try clear hcz11_0
    try clear hcz11_1
    try clear hcz11_2
    try clear hcz9_0
    try clear hcz9_1
    try clear hcz9_2
    try clear hfz11_0
    try clear hfz11_1
    try clear hfz11_2
    try clear hfz9_0
    try clear hfz9_1
    try clear hfz9_2
    obtain ⟨kq, x18_3, rfl, HA, HJ3, HO_245002, BK244, BK245, HB⟩ := hcut
    cases kq with
    | zero => exact absurd HA.out (by simp [saplinglaw13_put.j0])
    | succ kj3 =>
      have H := HA.out
      clear HA
      simp only [saplinglaw13_put.j0] at H
      by_cases c12 : x18_3 = true
      · subst c12
        have H1 : ((saplinglaw13_text.f a2).bind fun bt246 => (some (bt246.1, bt246.2.1, bt246.2.2))) = some (r1, r2, r3) := by rw [if_pos rfl] at H; exact H
        clear H
        have H := H1
        clear H1
        replace H := Option.bind_eq_some_iff.mp H
        obtain ⟨⟨t246, t247, t248⟩, A130, H⟩ := H
        replace H : (some (t246, t247, t248)) = some (r1, r2, r3) := H
        have A13 := Aside0.mk A130
        clear A130
        simp only [Option.some.injEq, Prod.mk.injEq] at H
        obtain ⟨rfl, rfl, rfl⟩ := H
        go_wp2_with (first | ((with_reducible refine gate_callee (f := 49) rfl ?_); refine goesL_ (some 20) rfl rfl Tryz.func49 (by kernel_rfl) rfl #[.string a2] rfl (by (try simp only [List.map_toArray, List.map_cons, List.map_nil]); first | done | rfl | (simp only [List.length_drop, List.length_take]; rfl)) ?_; (with_reducible refine (saplinglaw13_text.calls a2 t246 t247 t248 _ A13.out).mono ?_); rintro e w14 ⟨v249, rfl, ho0, hb⟩; refine ⟨_, rfl, ?_⟩; have n0_ := Aside0.mk (Kd.V_elder' (by (with_reducible repeat (first | apply Kd.V_alloc | apply Kd.V_drewN | apply Kd.V_drew)); exact HO_245002.out) (Kd.N_base (Kd.R_N ho0)) hb); have n1_ := Aside0.mk (Kd.N_lower (Kd.N_mono (ok' := fun k_ => (P0_2_ k_ ∨ w.heap.size ≤ k_) ∧ k_ ≠ gb244 ∧ k_ ≠ gb245) (Kd.R_N (Kd.R_bound ho0)) (fun k_ hk_ => ⟨(.inr (Nat.le_trans (below_size (by repeat (first | (with_reducible first | exact HB.out | apply below_alloc | apply pw_below_drewN | apply below_drew1 | refine below_set ?_ GE244.out | refine below_set ?_ GE245.out) | exact HB.out))) hk_.2.1)), (Kd.freshB (g := gb244) (o := .cells #[.int .i64 a0_0, .string a0_1, .slice A0_2 l0_2.length c0_2] 84 (0, 0)) (by (with_reducible repeat (first | refine blk_drewN ?_ _ | refine blk_drew ?_ | refine blk_alloc ?_ _)); exact BK244.out) k_ hk_.2.1), (Kd.freshB (g := gb245) (o := .cells #[.int .i64 0, .string (⟨#[]⟩ : ByteArray), .slice none 0 0] 84 (0, 0)) (by (with_reducible repeat (first | refine blk_drewN ?_ _ | refine blk_drew ?_ | refine blk_alloc ?_ _)); exact BK245.out) k_ hk_.2.1)⟩)) (below_size (by repeat (first | (with_reducible first | exact HB.out | apply below_alloc | apply pw_below_drewN | apply below_drew1 | refine below_set ?_ GE244.out | refine below_set ?_ GE245.out) | exact HB.out)))); have n2_ := Aside0.mk (blk_below (g := gb244) (o := .cells #[.int .i64 a0_0, .string a0_1, .slice A0_2 l0_2.length c0_2] 84 (0, 0)) (by (with_reducible repeat (first | refine blk_drewN ?_ _ | refine blk_drew ?_ | refine blk_alloc ?_ _)); exact BK244.out) hb); have n3_ := Aside0.mk (blk_below (g := gb245) (o := .cells #[.int .i64 0, .string (⟨#[]⟩ : ByteArray), .slice none 0 0] 84 (0, 0)) (by (with_reducible repeat (first | refine blk_drewN ?_ _ | refine blk_drew ?_ | refine blk_alloc ?_ _)); exact BK245.out) hb); have n4_ := Aside0.mk (below_step (by repeat (first | (with_reducible first | exact HB.out | apply below_alloc | apply pw_below_drewN | apply below_drew1 | refine below_set ?_ GE244.out | refine below_set ?_ GE245.out) | exact HB.out)) hb); clear HO_245002; clear BK244; clear BK245; clear HB; have HO_245002 := n0_; have HO250 := n1_; have BK244 := n2_; have BK245 := n3_; have HB := n4_; clear n0_ n1_ n2_ n3_ n4_; (try clear hb); (try clear hb2); (try clear hk); (try clear hi); (try clear ho0); have hnb15 := NB245_244.out; have hnc15 := NB244_245.out; have hcz16_0 : w14.cell? ⟨gb245, 0, none⟩ = some (.int .i64 0) := (blk_cell BK245.out 0).trans rfl; have hcz16_1 : w14.cell? ⟨gb245, 1, none⟩ = some (.string (⟨#[]⟩ : ByteArray)) := (blk_cell BK245.out 1).trans rfl; have hcz16_2 : w14.cell? ⟨gb245, 2, none⟩ = some (.slice none 0 0) := (blk_cell BK245.out 2).trans rfl; have hfz16_0 := blk_frozen BK245.out 0; have hfz16_1 := blk_frozen BK245.out 1; have hfz16_2 := blk_frozen BK245.out 2; obtain ⟨Ao17, co17, eo17⟩ := Kd.N_slice HO250.out; subst eo17))
        refine bodyPost_ret (results_cell_row rfl _ _ gb245 84 #[.int .i64 t246, .string t247, .slice Ao17 t248.length co17] (0, 0) _ rfl (by (with_reducible repeat (first | refine blk_drewN ?_ _ | refine blk_drew ?_ | refine blk_alloc ?_ _)); refine blk_put (cs := #[.int .i64 t246, .string t247, .slice none 0 0]) ?_ 2 _ rfl; (with_reducible repeat (first | refine blk_drewN ?_ _ | refine blk_drew ?_ | refine blk_alloc ?_ _)); refine blk_put (cs := #[.int .i64 t246, .string (⟨#[]⟩ : ByteArray), .slice none 0 0]) ?_ 1 _ rfl; (with_reducible repeat (first | refine blk_drewN ?_ _ | refine blk_drew ?_ | refine blk_alloc ?_ _)); refine blk_put (cs := #[.int .i64 0, .string (⟨#[]⟩ : ByteArray), .slice none 0 0]) ?_ 0 _ rfl; (with_reducible repeat (first | refine blk_drewN ?_ _ | refine blk_drew ?_ | refine blk_alloc ?_ _)); exact BK245.out) Tryz.underlying84 rfl (by kernel_rfl)) rfl ?_
        exact ⟨_, by first | rfl | (simp [errW_none, errW_some] <;> rfl) | (simp [*, errW_none, errW_some] <;> rfl), by (with_reducible repeat (first | apply Kd.N_alloc | apply Kd.N_drewN | apply Kd.N_drew)); exact Kd.N_mono (Kd.N_far (p := ⟨gb245, 2, none⟩) (Kd.N_far (p := ⟨gb245, 1, none⟩) (Kd.N_far (p := ⟨gb245, 0, none⟩) (Kd.N_mono HO250.out (fun k_ hk => (⟨hk, hk.2.2⟩ : _ ∧ k_ ≠ gb245))) (fun _ hk => hk.2) (.int .i64 t246)) (fun _ hk => hk.2) (.string t247)) (fun _ hk => hk.2) (.slice Ao17 t248.length co17)) (fun _ hk => hk.1.1), by repeat (first | (with_reducible first | exact HB.out | apply below_alloc | apply pw_below_drewN | apply below_drew1 | refine below_set ?_ GE244.out | refine below_set ?_ GE245.out) | exact HB.out)⟩
      · replace c12 := Bool.eq_false_iff.mpr c12
        subst c12
        have H1 : (saplinglaw13_put.l0 kj3 a1 a2 l0_2 (l0_2.length : Int) 0 a0_0 a0_1 l0_2 a0_0 a0_1 ([] : List (S84))) = some (r1, r2, r3) := by rw [if_neg (show ¬ (false = true) by decide)] at H; exact H
        clear H
        have H := H1
        clear H1
        have H' := Aside0.mk H
        clear H
        have hnb18 := NB244_245.out
        have hnc18 := NB245_244.out
        have hcz19_0 : wc.cell? ⟨gb244, 0, none⟩ = some (.int .i64 a0_0) := (blk_cell BK244.out 0).trans rfl
        have hcz19_1 : wc.cell? ⟨gb244, 1, none⟩ = some (.string a0_1) := (blk_cell BK244.out 1).trans rfl
        have hcz19_2 : wc.cell? ⟨gb244, 2, none⟩ = some (.slice A0_2 l0_2.length c0_2) := (blk_cell BK244.out 2).trans rfl
        have hfz19_0 := blk_frozen BK244.out 0
        have hfz19_1 := blk_frozen BK244.out 1
        have hfz19_2 := blk_frozen BK244.out 2
        go_wp2_with (first | ((with_reducible refine gate_dst (N := 7) rfl ?_); refine box_event ?hg (N := 7) ?hd (cs := #[.int .i64 0, .string (⟨#[]⟩ : ByteArray), .slice none 0 0]) (t := 84) ?hr ?_; (case hd => rfl); (case hg => rfl); (case hr => first | (go_simp; done) | (go_simp; rfl)); intro gb251 hg w20 hbox hb; have n0_ := Aside0.mk (Kd.V_below (Kd.V_elderB (by (with_reducible repeat (first | apply Kd.V_alloc | apply Kd.V_drewN | apply Kd.V_drew)); exact HO_245002.out) gb251 (Nat.le_of_eq hg.symm)) hb); have n1_ := Aside0.mk (blk_below (g := gb244) (o := .cells #[.int .i64 a0_0, .string a0_1, .slice A0_2 l0_2.length c0_2] 84 (0, 0)) (by (with_reducible repeat (first | refine blk_drewN ?_ _ | refine blk_drew ?_ | refine blk_alloc ?_ _)); exact BK244.out) hb); have n2_ := Aside0.mk (blk_below (g := gb245) (o := .cells #[.int .i64 0, .string (⟨#[]⟩ : ByteArray), .slice none 0 0] 84 (0, 0)) (by (with_reducible repeat (first | refine blk_drewN ?_ _ | refine blk_drew ?_ | refine blk_alloc ?_ _)); exact BK245.out) hb); have n3_ := Aside0.mk (below_step (by repeat (first | (with_reducible first | exact HB.out | apply below_alloc | apply pw_below_drewN | apply below_drew1 | refine below_set ?_ GE244.out | refine below_set ?_ GE245.out) | exact HB.out)) hb); have n4_ := Aside0.mk (hbox); have n5_ := Aside0.mk ((by rw [hg]; exact (below_size (by repeat (first | (with_reducible first | exact HB.out | apply below_alloc | apply pw_below_drewN | apply below_drew1 | refine below_set ?_ GE244.out | refine below_set ?_ GE245.out) | exact HB.out))) : w.heap.size ≤ gb251)); have n6_ := Aside0.mk ((by rw [hg]; exact (below_size (by repeat (first | (with_reducible first | exact HB.out | apply below_alloc | apply pw_below_drewN | apply below_drew1 | refine below_set ?_ GE244.out | refine below_set ?_ GE245.out) | exact HB.out))) : w.heap.size ≤ gb251)); have n7_ := Aside0.mk ((by rw [hg]; exact Nat.ne_of_lt (blk_lt (g := gb244) (o := .cells #[.int .i64 a0_0, .string a0_1, .slice A0_2 l0_2.length c0_2] 84 (0, 0)) (by (with_reducible repeat (first | refine blk_drewN ?_ _ | refine blk_drew ?_ | refine blk_alloc ?_ _)); exact BK244.out)) : gb244 ≠ gb251)); have n8_ := Aside0.mk ((by rw [hg]; exact Nat.ne_of_gt (blk_lt (g := gb244) (o := .cells #[.int .i64 a0_0, .string a0_1, .slice A0_2 l0_2.length c0_2] 84 (0, 0)) (by (with_reducible repeat (first | refine blk_drewN ?_ _ | refine blk_drew ?_ | refine blk_alloc ?_ _)); exact BK244.out)) : gb251 ≠ gb244)); have n9_ := Aside0.mk ((by rw [hg]; exact Nat.ne_of_lt (blk_lt (g := gb245) (o := .cells #[.int .i64 0, .string (⟨#[]⟩ : ByteArray), .slice none 0 0] 84 (0, 0)) (by (with_reducible repeat (first | refine blk_drewN ?_ _ | refine blk_drew ?_ | refine blk_alloc ?_ _)); exact BK245.out)) : gb245 ≠ gb251)); have n10_ := Aside0.mk ((by rw [hg]; exact Nat.ne_of_gt (blk_lt (g := gb245) (o := .cells #[.int .i64 0, .string (⟨#[]⟩ : ByteArray), .slice none 0 0] 84 (0, 0)) (by (with_reducible repeat (first | refine blk_drewN ?_ _ | refine blk_drew ?_ | refine blk_alloc ?_ _)); exact BK245.out)) : gb251 ≠ gb245)); clear HO_245002; clear BK244; clear BK245; clear HB; have HO_245002 := n0_; have BK244 := n1_; have BK245 := n2_; have HB := n3_; have BK251 := n4_; have GW251 := n5_; have GE251 := n6_; have NB244_251 := n7_; have NB251_244 := n8_; have NB245_251 := n9_; have NB251_245 := n10_; clear n0_ n1_ n2_ n3_ n4_ n5_ n6_ n7_ n8_ n9_ n10_; clear hb hbox hg; have hnb21 := NB251_244.out; have hnc21 := NB244_251.out; have hnb22 := NB251_245.out; have hnc22 := NB245_251.out; have hcz23_0 : w20.cell? ⟨gb251, 0, none⟩ = some (.int .i64 0) := (blk_cell BK251.out 0).trans rfl; have hcz23_1 : w20.cell? ⟨gb251, 1, none⟩ = some (.string (⟨#[]⟩ : ByteArray)) := (blk_cell BK251.out 1).trans rfl; have hcz23_2 : w20.cell? ⟨gb251, 2, none⟩ = some (.slice none 0 0) := (blk_cell BK251.out 2).trans rfl; have hfz23_0 := blk_frozen BK251.out 0; have hfz23_1 := blk_frozen BK251.out 1; have hfz23_2 := blk_frozen BK251.out 2; have hcz24_0 : w20.cell? ⟨gb244, 0, none⟩ = some (.int .i64 a0_0) := (blk_cell BK244.out 0).trans rfl; have hcz24_1 : w20.cell? ⟨gb244, 1, none⟩ = some (.string a0_1) := (blk_cell BK244.out 1).trans rfl; have hcz24_2 : w20.cell? ⟨gb244, 2, none⟩ = some (.slice A0_2 l0_2.length c0_2) := (blk_cell BK244.out 2).trans rfl; have hfz24_0 := blk_frozen BK244.out 0; have hfz24_1 := blk_frozen BK244.out 1; have hfz24_2 := blk_frozen BK244.out 2))
        go_loopg [29] kj3 (fun kq v29 w' => ∃ (x29_2 : Int) (x252002_2 : List (S84)) (u252002 : Value), v29 = .int .i64 x29_2 ∧ Aside0 (saplinglaw13_put.l0 kq a1 a2 l0_2 (l0_2.length : Int) x29_2 a0_0 a0_1 l0_2 a0_0 a0_1 x252002_2 = some (r1, r2, r3)) ∧ Aside0 (kq ≤ kj3) ∧ Aside0 (Kd.V k84 84 w' w.heap.size (fun k_ => (P0_2_ k_ ∨ w.heap.size ≤ k_) ∧ some k_ ≠ (u252002 : Value).ownBlock ∧ k_ ≠ gb244 ∧ k_ ≠ gb245 ∧ k_ ≠ gb251) (.slice A0_2 l0_2.length c0_2) l0_2) ∧ Aside0 (Kd.V k84 84 w' w.heap.size (fun k_ => (P0_2_ k_ ∨ w.heap.size ≤ k_) ∧ some k_ ≠ (u252002 : Value).ownBlock ∧ k_ ≠ gb244 ∧ k_ ≠ gb245 ∧ k_ ≠ gb251) (.slice A0_2 l0_2.length c0_2) l0_2) ∧ Aside0 (Kd.N k84 84 w' w.heap.size (fun k_ => (P0_2_ k_ ∨ w.heap.size ≤ k_) ∧ k_ ≠ gb244 ∧ k_ ≠ gb245 ∧ k_ ≠ gb251) u252002 x252002_2) ∧ Aside0 (w'.heap[gb244]? = some (.cells #[.int .i64 a0_0, .string a0_1, (.slice A0_2 l0_2.length c0_2)] 84 (0, 0))) ∧ Aside0 (w'.heap[gb245]? = some (.cells #[.int .i64 0, .string (⟨#[]⟩ : ByteArray), (.slice none 0 0)] 84 (0, 0))) ∧ Aside0 (w'.heap[gb251]? = some (.cells #[.int .i64 a0_0, .string a0_1, u252002] 84 (0, 0))) ∧ Aside0 (Below w.heap.size w w'))
        case atStart => exact ⟨(0), (([] : List (S84))), (.slice none 0 0), (by first | rfl | (simp; done) | (simp [*]; done) | (have e_ : ∀ l : List UInt8, (l != []) = !l.isEmpty := (fun l => by cases l <;> rfl); simp [e_]; done)), H', ⟨Nat.le_refl _⟩, ⟨by (with_reducible repeat (first | apply Kd.V_alloc | apply Kd.V_drewN | apply Kd.V_drew)); exact Kd.V_mono (Kd.V_far (p := ⟨gb251, 2, none⟩) (Kd.V_far (p := ⟨gb251, 1, none⟩) (Kd.V_far (p := ⟨gb251, 0, none⟩) (Kd.V_mono HO_245002.out (fun k_ hk => (⟨hk, hk.2⟩ : _ ∧ k_ ≠ gb251))) (fun _ hk => hk.2) (.int .i64 a0_0)) (fun _ hk => hk.2) (.string a0_1)) (fun _ hk => hk.2) (.slice none 0 0)) (fun _ hk => ⟨hk.1.1.1, ⟨(by simp [Value.ownBlock]), ⟨hk.1.1.2.1, ⟨hk.1.1.2.2, hk.1.2⟩⟩⟩⟩)⟩, ⟨by (with_reducible repeat (first | apply Kd.V_alloc | apply Kd.V_drewN | apply Kd.V_drew)); exact Kd.V_mono (Kd.V_far (p := ⟨gb251, 2, none⟩) (Kd.V_far (p := ⟨gb251, 1, none⟩) (Kd.V_far (p := ⟨gb251, 0, none⟩) (Kd.V_mono HO_245002.out (fun k_ hk => (⟨hk, hk.2⟩ : _ ∧ k_ ≠ gb251))) (fun _ hk => hk.2) (.int .i64 a0_0)) (fun _ hk => hk.2) (.string a0_1)) (fun _ hk => hk.2) (.slice none 0 0)) (fun _ hk => ⟨hk.1.1.1, ⟨(by simp [Value.ownBlock]), ⟨hk.1.1.2.1, ⟨hk.1.1.2.2, hk.1.2⟩⟩⟩⟩)⟩, ⟨by first | exact Kd.R_nil _ _ _ _ _ | exact Kd.N_nil _ _ _ _ _ | exact Kd.V_nil _ _ _ _ _ | exact Kd.Q_nil _ _ _ _ _ | exact Kd.S_nil _ _ _ _ _⟩, ⟨by (with_reducible repeat (first | refine blk_drewN ?_ _ | refine blk_drew ?_ | refine blk_alloc ?_ _)); refine blk_far ?_ NB244_251.out _; (with_reducible repeat (first | refine blk_drewN ?_ _ | refine blk_drew ?_ | refine blk_alloc ?_ _)); refine blk_far ?_ NB244_251.out _; (with_reducible repeat (first | refine blk_drewN ?_ _ | refine blk_drew ?_ | refine blk_alloc ?_ _)); refine blk_far ?_ NB244_251.out _; (with_reducible repeat (first | refine blk_drewN ?_ _ | refine blk_drew ?_ | refine blk_alloc ?_ _)); exact BK244.out⟩, ⟨by (with_reducible repeat (first | refine blk_drewN ?_ _ | refine blk_drew ?_ | refine blk_alloc ?_ _)); refine blk_far ?_ NB245_251.out _; (with_reducible repeat (first | refine blk_drewN ?_ _ | refine blk_drew ?_ | refine blk_alloc ?_ _)); refine blk_far ?_ NB245_251.out _; (with_reducible repeat (first | refine blk_drewN ?_ _ | refine blk_drew ?_ | refine blk_alloc ?_ _)); refine blk_far ?_ NB245_251.out _; (with_reducible repeat (first | refine blk_drewN ?_ _ | refine blk_drew ?_ | refine blk_alloc ?_ _)); exact BK245.out⟩, ⟨by (with_reducible repeat (first | refine blk_drewN ?_ _ | refine blk_drew ?_ | refine blk_alloc ?_ _)); refine blk_put (cs := #[.int .i64 a0_0, .string a0_1, .slice none 0 0]) ?_ 2 _ rfl; (with_reducible repeat (first | refine blk_drewN ?_ _ | refine blk_drew ?_ | refine blk_alloc ?_ _)); refine blk_put (cs := #[.int .i64 a0_0, .string (⟨#[]⟩ : ByteArray), .slice none 0 0]) ?_ 1 _ rfl; (with_reducible repeat (first | refine blk_drewN ?_ _ | refine blk_drew ?_ | refine blk_alloc ?_ _)); refine blk_put (cs := #[.int .i64 0, .string (⟨#[]⟩ : ByteArray), .slice none 0 0]) ?_ 0 _ rfl; (with_reducible repeat (first | refine blk_drewN ?_ _ | refine blk_drew ?_ | refine blk_alloc ?_ _)); exact BK251.out⟩, ⟨by repeat (first | (with_reducible first | exact HB.out | apply below_alloc | apply pw_below_drewN | apply below_drew1 | refine below_set ?_ GE244.out | refine below_set ?_ GE245.out | refine below_set ?_ GE251.out) | exact HB.out)⟩⟩
        case round =>
          clear H'
          try clear c1
          try clear c2
          try clear p2
          try clear c4
          try clear c5
          try clear c7
          try clear c7b0
          try clear c7b1
          try clear c8
          try clear c10
          try clear c12
          try clear c15
          try clear c18
          try clear c21
          try clear c22
          try clear hcz11_0
          try clear hcz11_1
          try clear hcz11_2
          try clear hcz16_0
          try clear hcz16_1
          try clear hcz16_2
          try clear hcz19_0
          try clear hcz19_1
          try clear hcz19_2
          try clear hcz23_0
          try clear hcz23_1
          try clear hcz23_2
          try clear hcz24_0
          try clear hcz24_1
          try clear hcz24_2
          try clear hcz9_0
          try clear hcz9_1
          try clear hcz9_2
          try clear hfz11_0
          try clear hfz11_1
          try clear hfz11_2
          try clear hfz16_0
          try clear hfz16_1
          try clear hfz16_2
          try clear hfz19_0
          try clear hfz19_1
          try clear hfz19_2
          try clear hfz23_0
          try clear hfz23_1
          try clear hfz23_2
          try clear hfz24_0
          try clear hfz24_1
          try clear hfz24_2
          try clear hfz9_0
          try clear hfz9_1
          try clear hfz9_2
          try clear p2
          obtain ⟨x29_2, x252002_2, u252002, rfl, HA, HK2, HO_27, HO_245002, HO_252002, BK244, BK245, BK251, HB⟩ := hrel
          cases gk with
          | zero => exact absurd HA.out (by simp [saplinglaw13_put.l0])
          | succ k2 =>
            have H := HA.out
            clear HA
            simp only [saplinglaw13_put.l0] at H
            by_cases c25 : x29_2 < (l0_2.length : Int)
            · rw [if_pos c25] at H
              have c25b0 : decide (x29_2 < (l0_2.length : Int)) = true := decide_eq_true c25
              clear c25
              by_cases c26 : 0 ≤ x29_2
              · rw [if_pos c26] at H
                have c26b0 : decide (0 ≤ x29_2) = true := decide_eq_true c26
                clear c26
                by_cases c27 : x29_2 < (l0_2.length : Int)
                · rw [if_pos c27] at H
                  have c27b0 : decide (x29_2 < (l0_2.length : Int)) = true := decide_eq_true c27
                  clear c27
                  by_cases c28 : a0_0 = 5
                  · rw [if_pos c28] at H
                    have c28b0 : (a0_0 == 5) = true := beq_iff_eq.mpr c28
                    have c28b1 : (a0_0 != 5) = false := bne_eq_false_iff_eq.mpr c28
                    clear c28
                    by_cases c29 : a0_1.toList = a1.toList
                    · rw [if_pos c29] at H
                      have c29b0 : (a0_1.toList == a1.toList) = true := beq_iff_eq.mpr c29
                      have c29b1 : (a0_1.toList != a1.toList) = false := bne_eq_false_iff_eq.mpr c29
                      clear c29
                      by_cases c30 : x29_2 = 1
                      · rw [if_pos c30] at H
                        have c30b0 : (x29_2 == 1) = true := beq_iff_eq.mpr c30
                        have c30b1 : (x29_2 != 1) = false := bne_eq_false_iff_eq.mpr c30
                        clear c30
                        by_cases c31 : x252002_2.length < 2932031007402
                        · rw [if_pos c31] at H
                          have LMc31 := Aside0.mk c31
                          clear c31
                          obtain ⟨y254, hy254⟩ : ∃ y_ : List (S84), y_ = (x252002_2 ++ [(⟨(rd_T84 l0_2 x29_2).f0, (rd_T84 l0_2 x29_2).f1, (rd_T84 l0_2 x29_2).f2⟩ : S84)]) := ⟨_, rfl⟩
                          replace H : (saplinglaw13_put.l0 k2 a1 a2 l0_2 (l0_2.length : Int) (wrap64 (x29_2 + 1)) a0_0 a0_1 l0_2 a0_0 a0_1 y254) = some (r1, r2, r3) := by first | (rw [hy254]; with_reducible exact H) | (have H2_ := (Option.bind_some _ _).symm.trans H; rw [hy254]; with_reducible exact H2_) | (have H2_ := (Option.bind_some _ _).symm.trans H; with_reducible exact H2_) | with_reducible exact H | (rw [hy254]; exact H) | exact H
                          have Ny254 := Aside0.mk hy254
                          clear hy254
                          have H' := Aside0.mk H
                          clear H
                          have p252 : 0 ≤ (x29_2 : Int) := of_decide_eq_true (by first | (with_reducible assumption) | assumption)
                          have q252 : x29_2 < (l0_2.length : Int) := of_decide_eq_true (by first | (with_reducible assumption) | assumption)
                          obtain ⟨ad252, A252_2, c252_2, e252, hx252_0, hx252_1, hx252_2, hl252_2, hi252_2⟩ := at_T84 (Kd.V_reads' HO_27.out).2.2 x29_2 p252 q252
                          cases e252
                          obtain ⟨ce252, hce252, hMe252, hcc252⟩ := Kd.V_get HO_27.out z84 x29_2 p252 (by first | exact q252 | exact of_decide_eq_true (by first | (with_reducible assumption) | assumption) | (have e_ := (Kd.V_reads' HO_27.out).1; omega))
                          obtain ⟨ua252_2, uc252_2, rfl, ul252_2, ge252_2⟩ := k84_openF hMe252
                          have hv252_2 := hcc252 2 _ rfl
                          rw [add_field _ _ 2 (by omega)] at hv252_2
                          replace hv252_2 := Option.some.inj (hv252_2.symm.trans hx252_2)
                          injection hv252_2 with hva_ hvn_ hvc_
                          rw [hva_] at ge252_2
                          rw [hvc_] at ul252_2
                          have HL252_2 := Aside0.mk (show Kd.V k84 84 _ w.heap.size _ _ ((rd_T84 l0_2 x29_2).f2) from Kd.V_mk ul252_2 ge252_2)
                          clear hva_ hvn_ hvc_ ge252_2 ul252_2
                          clear hcc252 hce252
                          have HR252_2 := Aside0.mk hi252_2
                          have HC252_2 := Aside0.mk hl252_2
                          clear hi252_2 hl252_2
                          replace p252 := eq_true p252
                          replace q252 := eq_true q252
                          go_wp2_with (first | ((with_reducible refine gate_dst (N := 9) rfl ?_); refine box_event ?hg (N := 9) ?hd (cs := #[.int .i64 0, .string (⟨#[]⟩ : ByteArray), .slice none 0 0]) (t := 84) ?hr ?_; (case hd => rfl); (case hg => rfl); (case hr => first | (go_simp; done) | (go_simp; rfl)); intro gb253 hg w32 hbox hb; have n0_ := Aside0.mk (Kd.V_below (Kd.V_elderB (by (with_reducible repeat (first | apply Kd.V_alloc | apply Kd.V_drewN | apply Kd.V_drew)); exact HO_27.out) gb253 (Nat.le_of_eq hg.symm)) hb); have n1_ := Aside0.mk (Kd.V_below (Kd.V_elderB (by (with_reducible repeat (first | apply Kd.V_alloc | apply Kd.V_drewN | apply Kd.V_drew)); exact HO_245002.out) gb253 (Nat.le_of_eq hg.symm)) hb); have n2_ := Aside0.mk (Kd.N_below (Kd.N_elderB (by (with_reducible repeat (first | apply Kd.N_alloc | apply Kd.N_drewN | apply Kd.N_drew)); exact HO_252002.out) gb253 (Nat.le_of_eq hg.symm)) hb); have n3_ := Aside0.mk (Kd.V_below (Kd.V_elderB (by (with_reducible repeat (first | apply Kd.V_alloc | apply Kd.V_drewN | apply Kd.V_drew)); exact HL252_2.out) gb253 (Nat.le_of_eq hg.symm)) hb); have n4_ := Aside0.mk (blk_below (g := gb244) (o := .cells #[.int .i64 a0_0, .string a0_1, .slice (some ad252) l0_2.length c0_2] 84 (0, 0)) (by (with_reducible repeat (first | refine blk_drewN ?_ _ | refine blk_drew ?_ | refine blk_alloc ?_ _)); exact BK244.out) hb); have n5_ := Aside0.mk (blk_below (g := gb245) (o := .cells #[.int .i64 0, .string (⟨#[]⟩ : ByteArray), .slice none 0 0] 84 (0, 0)) (by (with_reducible repeat (first | refine blk_drewN ?_ _ | refine blk_drew ?_ | refine blk_alloc ?_ _)); exact BK245.out) hb); have n6_ := Aside0.mk (blk_below (g := gb251) (o := .cells #[.int .i64 a0_0, .string a0_1, u252002] 84 (0, 0)) (by (with_reducible repeat (first | refine blk_drewN ?_ _ | refine blk_drew ?_ | refine blk_alloc ?_ _)); exact BK251.out) hb); have n7_ := Aside0.mk (Kd.C_below (by repeat (first | (with_reducible exact HR252_2.out) | (with_reducible refine Kd.C_alloc ?_ _) | (with_reducible refine Kd.C_drewN ?_ _) | (with_reducible refine Kd.C_drew ?_) | exact HR252_2.out)) hb); have n8_ := Aside0.mk (below_step (by repeat (first | (with_reducible first | exact HB.out | apply below_alloc | apply pw_below_drewN | apply below_drew1 | refine below_set ?_ GE244.out | refine below_set ?_ GE245.out | refine below_set ?_ GE251.out) | exact HB.out)) hb); have n9_ := Aside0.mk (hbox); have n10_ := Aside0.mk ((by rw [hg]; exact (below_size (by repeat (first | (with_reducible first | exact HB.out | apply below_alloc | apply pw_below_drewN | apply below_drew1 | refine below_set ?_ GE244.out | refine below_set ?_ GE245.out | refine below_set ?_ GE251.out) | exact HB.out))) : w.heap.size ≤ gb253)); have n11_ := Aside0.mk ((by rw [hg]; exact (below_size (by repeat (first | (with_reducible first | exact HB.out | apply below_alloc | apply pw_below_drewN | apply below_drew1 | refine below_set ?_ GE244.out | refine below_set ?_ GE245.out | refine below_set ?_ GE251.out) | exact HB.out))) : w.heap.size ≤ gb253)); have n12_ := Aside0.mk ((by rw [hg]; exact Nat.ne_of_lt (blk_lt (g := gb244) (o := .cells #[.int .i64 a0_0, .string a0_1, .slice (some ad252) l0_2.length c0_2] 84 (0, 0)) (by (with_reducible repeat (first | refine blk_drewN ?_ _ | refine blk_drew ?_ | refine blk_alloc ?_ _)); exact BK244.out)) : gb244 ≠ gb253)); have n13_ := Aside0.mk ((by rw [hg]; exact Nat.ne_of_gt (blk_lt (g := gb244) (o := .cells #[.int .i64 a0_0, .string a0_1, .slice (some ad252) l0_2.length c0_2] 84 (0, 0)) (by (with_reducible repeat (first | refine blk_drewN ?_ _ | refine blk_drew ?_ | refine blk_alloc ?_ _)); exact BK244.out)) : gb253 ≠ gb244)); have n14_ := Aside0.mk ((by rw [hg]; exact Nat.ne_of_lt (blk_lt (g := gb245) (o := .cells #[.int .i64 0, .string (⟨#[]⟩ : ByteArray), .slice none 0 0] 84 (0, 0)) (by (with_reducible repeat (first | refine blk_drewN ?_ _ | refine blk_drew ?_ | refine blk_alloc ?_ _)); exact BK245.out)) : gb245 ≠ gb253)); have n15_ := Aside0.mk ((by rw [hg]; exact Nat.ne_of_gt (blk_lt (g := gb245) (o := .cells #[.int .i64 0, .string (⟨#[]⟩ : ByteArray), .slice none 0 0] 84 (0, 0)) (by (with_reducible repeat (first | refine blk_drewN ?_ _ | refine blk_drew ?_ | refine blk_alloc ?_ _)); exact BK245.out)) : gb253 ≠ gb245)); have n16_ := Aside0.mk ((by rw [hg]; exact Nat.ne_of_lt (blk_lt (g := gb251) (o := .cells #[.int .i64 a0_0, .string a0_1, u252002] 84 (0, 0)) (by (with_reducible repeat (first | refine blk_drewN ?_ _ | refine blk_drew ?_ | refine blk_alloc ?_ _)); exact BK251.out)) : gb251 ≠ gb253)); have n17_ := Aside0.mk ((by rw [hg]; exact Nat.ne_of_gt (blk_lt (g := gb251) (o := .cells #[.int .i64 a0_0, .string a0_1, u252002] 84 (0, 0)) (by (with_reducible repeat (first | refine blk_drewN ?_ _ | refine blk_drew ?_ | refine blk_alloc ?_ _)); exact BK251.out)) : gb253 ≠ gb251)); clear HO_27; clear HO_245002; clear HO_252002; clear HL252_2; clear BK244; clear BK245; clear BK251; clear HR252_2; clear HB; have HO_27 := n0_; have HO_245002 := n1_; have HO_252002 := n2_; have HL252_2 := n3_; have BK244 := n4_; have BK245 := n5_; have BK251 := n6_; have HR252_2 := n7_; have HB := n8_; have BK253 := n9_; have GW253 := n10_; have GE253 := n11_; have NB244_253 := n12_; have NB253_244 := n13_; have NB245_253 := n14_; have NB253_245 := n15_; have NB251_253 := n16_; have NB253_251 := n17_; clear n0_ n1_ n2_ n3_ n4_ n5_ n6_ n7_ n8_ n9_ n10_ n11_ n12_ n13_ n14_ n15_ n16_ n17_; clear hb hbox hg; have hnb33 := NB253_244.out; have hnc33 := NB244_253.out; have hnb34 := NB253_245.out; have hnc34 := NB245_253.out; have hnb35 := NB253_251.out; have hnc35 := NB251_253.out; have hcz36_0 : w32.cell? ⟨gb253, 0, none⟩ = some (.int .i64 0) := (blk_cell BK253.out 0).trans rfl; have hcz36_1 : w32.cell? ⟨gb253, 1, none⟩ = some (.string (⟨#[]⟩ : ByteArray)) := (blk_cell BK253.out 1).trans rfl; have hcz36_2 : w32.cell? ⟨gb253, 2, none⟩ = some (.slice none 0 0) := (blk_cell BK253.out 2).trans rfl; have hfz36_0 := blk_frozen BK253.out 0; have hfz36_1 := blk_frozen BK253.out 1; have hfz36_2 := blk_frozen BK253.out 2) | ((with_reducible refine gate_store (t := 84) (p := 9) rfl ?_); refine store_event (t := 84) (p := 9) (v := ?vo_w37) (w1 := (((w32.setCell ⟨gb253, 0, none⟩ (.int .i64 ((rd_T84 l0_2 x29_2).f0))).setCell ⟨gb253, 1, none⟩ (.string ((rd_T84 l0_2 x29_2).f1))).setCell ⟨gb253, 2, none⟩ (.slice A252_2 ((rd_T84 l0_2 x29_2).f2).length c252_2))) ?hg ?ho ?hn ?hr ?_; (case ho => rfl); (case hg => rfl); (case hn => rfl); (case hr => first | (go_simp; done) | (go_simp; rfl)); intro w37 hw; have n0_ : Aside0 (Kd.V k84 84 w37 w.heap.size (fun k_ => (P0_2_ k_ ∨ w.heap.size ≤ k_) ∧ some k_ ≠ (u252002 : Value).ownBlock ∧ k_ ≠ gb244 ∧ k_ ≠ gb245 ∧ k_ ≠ gb251 ∧ k_ ≠ gb253) (.slice (some ad252) l0_2.length c0_2) l0_2) := ⟨(by rw [hw]; exact (by (with_reducible repeat (first | apply Kd.V_alloc | apply Kd.V_drewN | apply Kd.V_drew)); exact Kd.V_mono (Kd.V_far (p := ⟨gb253, 2, none⟩) (Kd.V_far (p := ⟨gb253, 1, none⟩) (Kd.V_far (p := ⟨gb253, 0, none⟩) (Kd.V_mono HO_27.out (fun k_ hk => (⟨hk, hk.2⟩ : _ ∧ k_ ≠ gb253))) (fun _ hk => hk.2) (.int .i64 ((rd_T84 l0_2 x29_2).f0))) (fun _ hk => hk.2) (.string ((rd_T84 l0_2 x29_2).f1))) (fun _ hk => hk.2) (.slice A252_2 ((rd_T84 l0_2 x29_2).f2).length c252_2)) (fun _ hk => ⟨hk.1.1.1, ⟨hk.1.1.2.1, ⟨hk.1.1.2.2.1, ⟨hk.1.1.2.2.2.1, ⟨hk.1.1.2.2.2.2, hk.1.2⟩⟩⟩⟩⟩)))⟩; have n1_ : Aside0 (Kd.V k84 84 w37 w.heap.size (fun k_ => (P0_2_ k_ ∨ w.heap.size ≤ k_) ∧ some k_ ≠ (u252002 : Value).ownBlock ∧ k_ ≠ gb244 ∧ k_ ≠ gb245 ∧ k_ ≠ gb251 ∧ k_ ≠ gb253) (.slice (some ad252) l0_2.length c0_2) l0_2) := ⟨(by rw [hw]; exact (by (with_reducible repeat (first | apply Kd.V_alloc | apply Kd.V_drewN | apply Kd.V_drew)); exact Kd.V_mono (Kd.V_far (p := ⟨gb253, 2, none⟩) (Kd.V_far (p := ⟨gb253, 1, none⟩) (Kd.V_far (p := ⟨gb253, 0, none⟩) (Kd.V_mono HO_245002.out (fun k_ hk => (⟨hk, hk.2⟩ : _ ∧ k_ ≠ gb253))) (fun _ hk => hk.2) (.int .i64 ((rd_T84 l0_2 x29_2).f0))) (fun _ hk => hk.2) (.string ((rd_T84 l0_2 x29_2).f1))) (fun _ hk => hk.2) (.slice A252_2 ((rd_T84 l0_2 x29_2).f2).length c252_2)) (fun _ hk => ⟨hk.1.1.1, ⟨hk.1.1.2.1, ⟨hk.1.1.2.2.1, ⟨hk.1.1.2.2.2.1, ⟨hk.1.1.2.2.2.2, hk.1.2⟩⟩⟩⟩⟩)))⟩; have n2_ : Aside0 (Kd.N k84 84 w37 w.heap.size (fun k_ => (P0_2_ k_ ∨ w.heap.size ≤ k_) ∧ k_ ≠ gb244 ∧ k_ ≠ gb245 ∧ k_ ≠ gb251 ∧ k_ ≠ gb253) u252002 x252002_2) := ⟨(by rw [hw]; exact (by (with_reducible repeat (first | apply Kd.N_alloc | apply Kd.N_drewN | apply Kd.N_drew)); exact Kd.N_mono (Kd.N_far (p := ⟨gb253, 2, none⟩) (Kd.N_far (p := ⟨gb253, 1, none⟩) (Kd.N_far (p := ⟨gb253, 0, none⟩) (Kd.N_mono HO_252002.out (fun k_ hk => (⟨hk, hk.2⟩ : _ ∧ k_ ≠ gb253))) (fun _ hk => hk.2) (.int .i64 ((rd_T84 l0_2 x29_2).f0))) (fun _ hk => hk.2) (.string ((rd_T84 l0_2 x29_2).f1))) (fun _ hk => hk.2) (.slice A252_2 ((rd_T84 l0_2 x29_2).f2).length c252_2)) (fun _ hk => ⟨hk.1.1.1, ⟨hk.1.1.2.1, ⟨hk.1.1.2.2.1, ⟨hk.1.1.2.2.2, hk.1.2⟩⟩⟩⟩)))⟩; have n3_ : Aside0 (Kd.V k84 84 w37 w.heap.size (fun k_ => (P0_2_ k_ ∨ w.heap.size ≤ k_) ∧ some k_ ≠ (u252002 : Value).ownBlock ∧ k_ ≠ gb244 ∧ k_ ≠ gb245 ∧ k_ ≠ gb251 ∧ k_ ≠ gb253) (.slice A252_2 ((rd_T84 l0_2 x29_2).f2).length c252_2) ((rd_T84 l0_2 x29_2).f2)) := ⟨(by rw [hw]; exact (by (with_reducible repeat (first | apply Kd.V_alloc | apply Kd.V_drewN | apply Kd.V_drew)); exact Kd.V_mono (Kd.V_far (p := ⟨gb253, 2, none⟩) (Kd.V_far (p := ⟨gb253, 1, none⟩) (Kd.V_far (p := ⟨gb253, 0, none⟩) (Kd.V_mono HL252_2.out (fun k_ hk => (⟨hk, hk.2⟩ : _ ∧ k_ ≠ gb253))) (fun _ hk => hk.2) (.int .i64 ((rd_T84 l0_2 x29_2).f0))) (fun _ hk => hk.2) (.string ((rd_T84 l0_2 x29_2).f1))) (fun _ hk => hk.2) (.slice A252_2 ((rd_T84 l0_2 x29_2).f2).length c252_2)) (fun _ hk => ⟨hk.1.1.1, ⟨hk.1.1.2.1, ⟨hk.1.1.2.2.1, ⟨hk.1.1.2.2.2.1, ⟨hk.1.1.2.2.2.2, hk.1.2⟩⟩⟩⟩⟩)))⟩; have n4_ : Aside0 (w37.heap[gb244]? = some (.cells #[.int .i64 a0_0, .string a0_1, .slice (some ad252) l0_2.length c0_2] 84 (0, 0))) := ⟨(by rw [hw]; exact (by (with_reducible repeat (first | refine blk_drewN ?_ _ | refine blk_drew ?_ | refine blk_alloc ?_ _)); refine blk_far ?_ NB244_253.out _; (with_reducible repeat (first | refine blk_drewN ?_ _ | refine blk_drew ?_ | refine blk_alloc ?_ _)); refine blk_far ?_ NB244_253.out _; (with_reducible repeat (first | refine blk_drewN ?_ _ | refine blk_drew ?_ | refine blk_alloc ?_ _)); refine blk_far ?_ NB244_253.out _; (with_reducible repeat (first | refine blk_drewN ?_ _ | refine blk_drew ?_ | refine blk_alloc ?_ _)); exact BK244.out))⟩; have n5_ : Aside0 (w37.heap[gb245]? = some (.cells #[.int .i64 0, .string (⟨#[]⟩ : ByteArray), .slice none 0 0] 84 (0, 0))) := ⟨(by rw [hw]; exact (by (with_reducible repeat (first | refine blk_drewN ?_ _ | refine blk_drew ?_ | refine blk_alloc ?_ _)); refine blk_far ?_ NB245_253.out _; (with_reducible repeat (first | refine blk_drewN ?_ _ | refine blk_drew ?_ | refine blk_alloc ?_ _)); refine blk_far ?_ NB245_253.out _; (with_reducible repeat (first | refine blk_drewN ?_ _ | refine blk_drew ?_ | refine blk_alloc ?_ _)); refine blk_far ?_ NB245_253.out _; (with_reducible repeat (first | refine blk_drewN ?_ _ | refine blk_drew ?_ | refine blk_alloc ?_ _)); exact BK245.out))⟩; have n6_ : Aside0 (w37.heap[gb251]? = some (.cells #[.int .i64 a0_0, .string a0_1, u252002] 84 (0, 0))) := ⟨(by rw [hw]; exact (by (with_reducible repeat (first | refine blk_drewN ?_ _ | refine blk_drew ?_ | refine blk_alloc ?_ _)); refine blk_far ?_ NB251_253.out _; (with_reducible repeat (first | refine blk_drewN ?_ _ | refine blk_drew ?_ | refine blk_alloc ?_ _)); refine blk_far ?_ NB251_253.out _; (with_reducible repeat (first | refine blk_drewN ?_ _ | refine blk_drew ?_ | refine blk_alloc ?_ _)); refine blk_far ?_ NB251_253.out _; (with_reducible repeat (first | refine blk_drewN ?_ _ | refine blk_drew ?_ | refine blk_alloc ?_ _)); exact BK251.out))⟩; have n7_ : Aside0 (w37.heap[gb253]? = some (.cells #[.int .i64 ((rd_T84 l0_2 x29_2).f0), .string ((rd_T84 l0_2 x29_2).f1), .slice A252_2 ((rd_T84 l0_2 x29_2).f2).length c252_2] 84 (0, 0))) := ⟨(by rw [hw]; exact (by (with_reducible repeat (first | refine blk_drewN ?_ _ | refine blk_drew ?_ | refine blk_alloc ?_ _)); refine blk_put (cs := #[.int .i64 ((rd_T84 l0_2 x29_2).f0), .string ((rd_T84 l0_2 x29_2).f1), .slice none 0 0]) ?_ 2 _ rfl; (with_reducible repeat (first | refine blk_drewN ?_ _ | refine blk_drew ?_ | refine blk_alloc ?_ _)); refine blk_put (cs := #[.int .i64 ((rd_T84 l0_2 x29_2).f0), .string (⟨#[]⟩ : ByteArray), .slice none 0 0]) ?_ 1 _ rfl; (with_reducible repeat (first | refine blk_drewN ?_ _ | refine blk_drew ?_ | refine blk_alloc ?_ _)); refine blk_put (cs := #[.int .i64 0, .string (⟨#[]⟩ : ByteArray), .slice none 0 0]) ?_ 0 _ rfl; (with_reducible repeat (first | refine blk_drewN ?_ _ | refine blk_drew ?_ | refine blk_alloc ?_ _)); exact BK253.out))⟩; have n8_ : Aside0 (Below w.heap.size w w37) := ⟨(by rw [hw]; exact (by repeat (first | (with_reducible first | exact HB.out | apply below_alloc | apply pw_below_drewN | apply below_drew1 | refine below_set ?_ GE244.out | refine below_set ?_ GE245.out | refine below_set ?_ GE251.out | refine below_set ?_ GE253.out) | exact HB.out)))⟩; clear hw; clear HO_27; clear HO_245002; clear HO_252002; clear HL252_2; clear BK244; clear BK245; clear BK251; clear BK253; clear HB; have HO_27 := n0_; have HO_245002 := n1_; have HO_252002 := n2_; have HL252_2 := n3_; have BK244 := n4_; have BK245 := n5_; have BK251 := n6_; have BK253 := n7_; have HB := n8_; clear n0_ n1_ n2_ n3_ n4_ n5_ n6_ n7_ n8_; have hnb38 := NB244_245.out; have hnc38 := NB245_244.out; have hnb39 := NB244_251.out; have hnc39 := NB251_244.out; have hcz40_0 : w37.cell? ⟨gb244, 0, none⟩ = some (.int .i64 a0_0) := (blk_cell BK244.out 0).trans rfl; have hcz40_1 : w37.cell? ⟨gb244, 1, none⟩ = some (.string a0_1) := (blk_cell BK244.out 1).trans rfl; have hcz40_2 : w37.cell? ⟨gb244, 2, none⟩ = some (.slice (some ad252) l0_2.length c0_2) := (blk_cell BK244.out 2).trans rfl; have hfz40_0 := blk_frozen BK244.out 0; have hfz40_1 := blk_frozen BK244.out 1; have hfz40_2 := blk_frozen BK244.out 2; have hnb41 := NB251_245.out; have hnc41 := NB245_251.out; have hcz42_0 : w37.cell? ⟨gb251, 0, none⟩ = some (.int .i64 a0_0) := (blk_cell BK251.out 0).trans rfl; have hcz42_1 : w37.cell? ⟨gb251, 1, none⟩ = some (.string a0_1) := (blk_cell BK251.out 1).trans rfl; have hcz42_2 : w37.cell? ⟨gb251, 2, none⟩ = some (u252002) := (blk_cell BK251.out 2).trans rfl; have hfz42_0 := blk_frozen BK251.out 0; have hfz42_1 := blk_frozen BK251.out 1; have hfz42_2 := blk_frozen BK251.out 2; have hcz43_0 : w37.cell? ⟨gb253, 0, none⟩ = some (.int .i64 ((rd_T84 l0_2 x29_2).f0)) := (blk_cell BK253.out 0).trans rfl; have hcz43_1 : w37.cell? ⟨gb253, 1, none⟩ = some (.string ((rd_T84 l0_2 x29_2).f1)) := (blk_cell BK253.out 1).trans rfl; have hcz43_2 : w37.cell? ⟨gb253, 2, none⟩ = some (.slice A252_2 ((rd_T84 l0_2 x29_2).f2).length c252_2) := (blk_cell BK253.out 2).trans rfl; have hfz43_0 := blk_frozen BK253.out 0; have hfz43_1 := blk_frozen BK253.out 1; have hfz43_2 := blk_frozen BK253.out 2) | ((with_reducible refine gate_builtin (b := .append) (xs := #[.tmp 48, .tmp 50]) rfl ?_); at_builtin; refine Kd.N_append k84 (w0 := w) w.heap.size rfl (.tmp 48) (.tmp 50) 82 84 (.agg #[(.int .i64 0), (.string ⟨#[]⟩), (.slice none 0 0)]) 48 rfl Tryz.underlying82 info84 rfl (by decide) (by omega) u252002 x252002_2 (⟨(rd_T84 l0_2 x29_2).f0, (rd_T84 l0_2 x29_2).f1, (rd_T84 l0_2 x29_2).f2⟩ : S84) [.int .i64 ((rd_T84 l0_2 x29_2).f0), .string ((rd_T84 l0_2 x29_2).f1), .slice A252_2 ((rd_T84 l0_2 x29_2).f2).length c252_2] (fun k_ => (P0_2_ k_ ∨ w.heap.size ≤ k_) ∧ k_ ≠ gb244 ∧ k_ ≠ gb245 ∧ k_ ≠ gb251 ∧ k_ ≠ gb253) (fun k_ => ((fun k_ => (P0_2_ k_ ∨ w.heap.size ≤ k_) ∧ k_ ≠ gb244 ∧ k_ ≠ gb245 ∧ k_ ≠ gb251 ∧ k_ ≠ gb253)) k_ ∧ some k_ ≠ (u252002 : Value).ownBlock) rfl rfl ?aP (fun _ hk => hk) ?aF ?aO ?aB ?aS ?aL ?_; (case aP => exact (k84_mkF _ _ (⟨(rd_T84 l0_2 x29_2).f0, (rd_T84 l0_2 x29_2).f1, (rd_T84 l0_2 x29_2).f2⟩ : S84) (Kd.V_reads' (Kd.V_mono (ok' := (fun k_ => ((fun k_ => (P0_2_ k_ ∨ w.heap.size ≤ k_) ∧ k_ ≠ gb244 ∧ k_ ≠ gb245 ∧ k_ ≠ gb251 ∧ k_ ≠ gb253)) k_ ∧ some k_ ≠ (u252002 : Value).ownBlock)) (HL252_2.out) (fun k_ hk => ⟨⟨hk.1, ⟨hk.2.2.1, ⟨hk.2.2.2.1, ⟨hk.2.2.2.2.1, hk.2.2.2.2.2⟩⟩⟩⟩, hk.2.1⟩))).2.1 (Kd.V_F (Kd.V_mono (ok' := (fun k_ => ((fun k_ => (P0_2_ k_ ∨ w.heap.size ≤ k_) ∧ k_ ≠ gb244 ∧ k_ ≠ gb245 ∧ k_ ≠ gb251 ∧ k_ ≠ gb253)) k_ ∧ some k_ ≠ (u252002 : Value).ownBlock)) (HL252_2.out) (fun k_ hk => ⟨⟨hk.1, ⟨hk.2.2.1, ⟨hk.2.2.2.1, ⟨hk.2.2.2.2.1, hk.2.2.2.2.2⟩⟩⟩⟩, hk.2.1⟩))))); (case aB => exact (by repeat (first | (with_reducible first | exact HB.out | apply below_alloc | apply pw_below_drewN | apply below_drew1 | refine below_set ?_ GE244.out | refine below_set ?_ GE245.out | refine below_set ?_ GE251.out | refine below_set ?_ GE253.out) | exact HB.out))); (case aF => exact (fun k_ hk => ⟨(.inr (Nat.le_trans (below_size (by repeat (first | (with_reducible first | exact HB.out | apply below_alloc | apply pw_below_drewN | apply below_drew1 | refine below_set ?_ GE244.out | refine below_set ?_ GE245.out | refine below_set ?_ GE251.out | refine below_set ?_ GE253.out) | exact HB.out))) hk)), Kd.freshB (g := gb244) (o := .cells #[.int .i64 a0_0, .string a0_1, .slice (some ad252) l0_2.length c0_2] 84 (0, 0)) (by (with_reducible repeat (first | refine blk_drewN ?_ _ | refine blk_drew ?_ | refine blk_alloc ?_ _)); exact BK244.out) k_ hk, Kd.freshB (g := gb245) (o := .cells #[.int .i64 0, .string (⟨#[]⟩ : ByteArray), .slice none 0 0] 84 (0, 0)) (by (with_reducible repeat (first | refine blk_drewN ?_ _ | refine blk_drew ?_ | refine blk_alloc ?_ _)); exact BK245.out) k_ hk, Kd.freshB (g := gb251) (o := .cells #[.int .i64 a0_0, .string a0_1, u252002] 84 (0, 0)) (by (with_reducible repeat (first | refine blk_drewN ?_ _ | refine blk_drew ?_ | refine blk_alloc ?_ _)); exact BK251.out) k_ hk, Kd.freshB (g := gb253) (o := .cells #[.int .i64 ((rd_T84 l0_2 x29_2).f0), .string ((rd_T84 l0_2 x29_2).f1), .slice A252_2 ((rd_T84 l0_2 x29_2).f2).length c252_2] 84 (0, 0)) (by (with_reducible repeat (first | refine blk_drewN ?_ _ | refine blk_drew ?_ | refine blk_alloc ?_ _)); exact BK253.out) k_ hk⟩)); (case aO => exact (by (with_reducible repeat (first | apply Kd.N_alloc | apply Kd.N_drewN | apply Kd.N_drew)); exact HO_252002.out)); (case aS => exact (below_size (by repeat (first | (with_reducible first | exact HB.out | apply below_alloc | apply pw_below_drewN | apply below_drew1 | refine below_set ?_ GE244.out | refine below_set ?_ GE245.out | refine below_set ?_ GE251.out | refine below_set ?_ GE253.out) | exact HB.out)))); (case aL => have := LMc31.out; omega); intro v255 w44 ho hb hg hat; rw [← Ny254.out] at ho; have n0_ := Aside0.mk (Kd.V_afterv (ok := (fun k_ => (P0_2_ k_ ∨ w.heap.size ≤ k_) ∧ k_ ≠ gb244 ∧ k_ ≠ gb245 ∧ k_ ≠ gb251 ∧ k_ ≠ gb253)) (by (with_reducible repeat (first | apply Kd.V_alloc | apply Kd.V_drewN | apply Kd.V_drew)); exact Kd.V_mono HO_27.out (fun _ hk => ⟨⟨hk.1, ⟨hk.2.2.1, ⟨hk.2.2.2.1, ⟨hk.2.2.2.2.1, hk.2.2.2.2.2⟩⟩⟩⟩, hk.2.1⟩)) hg hat); have n1_ := Aside0.mk (Kd.V_afterv (ok := (fun k_ => (P0_2_ k_ ∨ w.heap.size ≤ k_) ∧ k_ ≠ gb244 ∧ k_ ≠ gb245 ∧ k_ ≠ gb251 ∧ k_ ≠ gb253)) (by (with_reducible repeat (first | apply Kd.V_alloc | apply Kd.V_drewN | apply Kd.V_drew)); exact Kd.V_mono HO_245002.out (fun _ hk => ⟨⟨hk.1, ⟨hk.2.2.1, ⟨hk.2.2.2.1, ⟨hk.2.2.2.2.1, hk.2.2.2.2.2⟩⟩⟩⟩, hk.2.1⟩)) hg hat); have n2_ := Aside0.mk (blk_grown (g := gb244) (o := .cells #[.int .i64 a0_0, .string a0_1, .slice (some ad252) l0_2.length c0_2] 84 (0, 0)) (by (with_reducible repeat (first | refine blk_drewN ?_ _ | refine blk_drew ?_ | refine blk_alloc ?_ _)); exact BK244.out) hg (Kd.N_away HO_252002.out (fun _ hk => hk.2.1))); have n3_ := Aside0.mk (blk_grown (g := gb245) (o := .cells #[.int .i64 0, .string (⟨#[]⟩ : ByteArray), .slice none 0 0] 84 (0, 0)) (by (with_reducible repeat (first | refine blk_drewN ?_ _ | refine blk_drew ?_ | refine blk_alloc ?_ _)); exact BK245.out) hg (Kd.N_away HO_252002.out (fun _ hk => hk.2.2.1))); have n4_ := Aside0.mk (blk_grown (g := gb251) (o := .cells #[.int .i64 a0_0, .string a0_1, u252002] 84 (0, 0)) (by (with_reducible repeat (first | refine blk_drewN ?_ _ | refine blk_drew ?_ | refine blk_alloc ?_ _)); exact BK251.out) hg (Kd.N_away HO_252002.out (fun _ hk => hk.2.2.2.1))); have n5_ := Aside0.mk (Kd.V_afterv (ok := (fun k_ => (P0_2_ k_ ∨ w.heap.size ≤ k_) ∧ k_ ≠ gb244 ∧ k_ ≠ gb245 ∧ k_ ≠ gb251 ∧ k_ ≠ gb253)) (by (with_reducible repeat (first | apply Kd.V_alloc | apply Kd.V_drewN | apply Kd.V_drew)); exact Kd.V_mono HL252_2.out (fun _ hk => ⟨⟨hk.1, ⟨hk.2.2.1, ⟨hk.2.2.2.1, ⟨hk.2.2.2.2.1, hk.2.2.2.2.2⟩⟩⟩⟩, hk.2.1⟩)) hg hat); have n6_ := Aside0.mk (blk_grown (g := gb253) (o := .cells #[.int .i64 ((rd_T84 l0_2 x29_2).f0), .string ((rd_T84 l0_2 x29_2).f1), .slice A252_2 ((rd_T84 l0_2 x29_2).f2).length c252_2] 84 (0, 0)) (by (with_reducible repeat (first | refine blk_drewN ?_ _ | refine blk_drew ?_ | refine blk_alloc ?_ _)); exact BK253.out) hg (Kd.N_away HO_252002.out (fun _ hk => hk.2.2.2.2))); have n7_ := Aside0.mk (hb); have n8_ := Aside0.mk (ho); clear HO_27; clear HO_245002; clear BK244; clear BK245; clear BK251; clear HL252_2; clear BK253; clear HB; clear HO_252002; have HO_27 := n0_; have HO_245002 := n1_; have BK244 := n2_; have BK245 := n3_; have BK251 := n4_; have HL252_2 := n5_; have BK253 := n6_; have HB := n7_; have HO256 := n8_; clear n0_ n1_ n2_ n3_ n4_ n5_ n6_ n7_ n8_; clear ho hb hg hat; obtain ⟨Ao45, co45, eo45⟩ := Kd.N_slice HO256.out; subst eo45; have hcz46_0 : w44.cell? ⟨gb251, 0, none⟩ = some (.int .i64 a0_0) := (blk_cell BK251.out 0).trans rfl; have hcz46_1 : w44.cell? ⟨gb251, 1, none⟩ = some (.string a0_1) := (blk_cell BK251.out 1).trans rfl; have hcz46_2 : w44.cell? ⟨gb251, 2, none⟩ = some (u252002) := (blk_cell BK251.out 2).trans rfl; have hfz46_0 := blk_frozen BK251.out 0; have hfz46_1 := blk_frozen BK251.out 1; have hfz46_2 := blk_frozen BK251.out 2))
                          go_roundg k2
                          case measure => have := HJ3.out; have := HK2.out; omega
                          case rel => exact ⟨(wrap64 (x29_2 + 1)), (y254), (.slice Ao45 y254.length co45), (by first | rfl | (simp; done) | (simp [*]; done) | (have e_ : ∀ l : List UInt8, (l != []) = !l.isEmpty := (fun l => by cases l <;> rfl); simp [e_]; done)), H', ⟨by have := HJ3.out; have := HK2.out; omega⟩, ⟨by (with_reducible repeat (first | apply Kd.V_alloc | apply Kd.V_drewN | apply Kd.V_drew)); exact Kd.V_mono (Kd.V_far (p := ⟨gb251, 2, none⟩) (Kd.V_mono HO_27.out (fun k_ hk => (⟨hk, hk.1.2.2.2.1⟩ : _ ∧ k_ ≠ gb251))) (fun _ hk => hk.2) (.slice Ao45 y254.length co45)) (fun _ hk => ⟨hk.1.1.1, ⟨hk.1.2, ⟨hk.1.1.2.1, ⟨hk.1.1.2.2.1, hk.1.1.2.2.2.1⟩⟩⟩⟩)⟩, ⟨by (with_reducible repeat (first | apply Kd.V_alloc | apply Kd.V_drewN | apply Kd.V_drew)); exact Kd.V_mono (Kd.V_far (p := ⟨gb251, 2, none⟩) (Kd.V_mono HO_245002.out (fun k_ hk => (⟨hk, hk.1.2.2.2.1⟩ : _ ∧ k_ ≠ gb251))) (fun _ hk => hk.2) (.slice Ao45 y254.length co45)) (fun _ hk => ⟨hk.1.1.1, ⟨hk.1.2, ⟨hk.1.1.2.1, ⟨hk.1.1.2.2.1, hk.1.1.2.2.2.1⟩⟩⟩⟩)⟩, ⟨by (with_reducible repeat (first | apply Kd.N_alloc | apply Kd.N_drewN | apply Kd.N_drew)); exact Kd.N_mono (Kd.N_far (p := ⟨gb251, 2, none⟩) (Kd.N_mono HO256.out (fun k_ hk => (⟨hk, hk.2.2.2.1⟩ : _ ∧ k_ ≠ gb251))) (fun _ hk => hk.2) (.slice Ao45 y254.length co45)) (fun _ hk => ⟨hk.1.1, ⟨hk.1.2.1, ⟨hk.1.2.2.1, hk.1.2.2.2.1⟩⟩⟩)⟩, ⟨by (with_reducible repeat (first | refine blk_drewN ?_ _ | refine blk_drew ?_ | refine blk_alloc ?_ _)); refine blk_far ?_ NB244_251.out _; (with_reducible repeat (first | refine blk_drewN ?_ _ | refine blk_drew ?_ | refine blk_alloc ?_ _)); exact BK244.out⟩, ⟨by (with_reducible repeat (first | refine blk_drewN ?_ _ | refine blk_drew ?_ | refine blk_alloc ?_ _)); refine blk_far ?_ NB245_251.out _; (with_reducible repeat (first | refine blk_drewN ?_ _ | refine blk_drew ?_ | refine blk_alloc ?_ _)); exact BK245.out⟩, ⟨by (with_reducible repeat (first | refine blk_drewN ?_ _ | refine blk_drew ?_ | refine blk_alloc ?_ _)); refine blk_put (cs := #[.int .i64 a0_0, .string a0_1, u252002]) ?_ 2 _ rfl; (with_reducible repeat (first | refine blk_drewN ?_ _ | refine blk_drew ?_ | refine blk_alloc ?_ _)); exact BK251.out⟩, ⟨by repeat (first | (with_reducible first | exact HB.out | apply below_alloc | apply pw_below_drewN | apply below_drew1 | refine below_set ?_ GE244.out | refine below_set ?_ GE245.out | refine below_set ?_ GE251.out | refine below_set ?_ GE253.out) | exact HB.out)⟩⟩
                        · rw [if_neg c31] at H
                          exact absurd H (by simp)
                      · rw [if_neg c30] at H
                        have c30b0 : (x29_2 == 1) = false := beq_eq_false_iff_ne.mpr c30
                        have c30b1 : (x29_2 != 1) = true := bne_iff_ne.mpr c30
                        replace H := Option.bind_eq_some_iff.mp H
                        obtain ⟨⟨t257, t258, t259⟩, A470, H⟩ := H
                        replace H : (if x252002_2.length < 2932031007402 then (saplinglaw13_put.l0 k2 a1 a2 l0_2 (l0_2.length : Int) (wrap64 (x29_2 + 1)) a0_0 a0_1 l0_2 a0_0 a0_1 (x252002_2 ++ [(⟨t257, t258, t259⟩ : S84)])) else (none)) = some (r1, r2, r3) := H
                        have A47 := Aside0.mk A470
                        clear A470
                        by_cases c48 : x252002_2.length < 2932031007402
                        · rw [if_pos c48] at H
                          have LMc48 := Aside0.mk c48
                          clear c48
                          obtain ⟨y262, hy262⟩ : ∃ y_ : List (S84), y_ = (x252002_2 ++ [(⟨t257, t258, t259⟩ : S84)]) := ⟨_, rfl⟩
                          replace H : (saplinglaw13_put.l0 k2 a1 a2 l0_2 (l0_2.length : Int) (wrap64 (x29_2 + 1)) a0_0 a0_1 l0_2 a0_0 a0_1 y262) = some (r1, r2, r3) := by first | (rw [hy262]; with_reducible exact H) | (have H2_ := (Option.bind_some _ _).symm.trans H; rw [hy262]; with_reducible exact H2_) | (have H2_ := (Option.bind_some _ _).symm.trans H; with_reducible exact H2_) | with_reducible exact H | (rw [hy262]; exact H) | exact H
                          have Ny262 := Aside0.mk hy262
                          clear hy262
                          have H' := Aside0.mk H
                          clear H
                          have p252 : 0 ≤ (x29_2 : Int) := of_decide_eq_true (by first | (with_reducible assumption) | assumption)
                          have q252 : x29_2 < (l0_2.length : Int) := of_decide_eq_true (by first | (with_reducible assumption) | assumption)
                          obtain ⟨ad252, A252_2, c252_2, e252, hx252_0, hx252_1, hx252_2, hl252_2, hi252_2⟩ := at_T84 (Kd.V_reads' HO_27.out).2.2 x29_2 p252 q252
                          cases e252
                          obtain ⟨ce252, hce252, hMe252, hcc252⟩ := Kd.V_get HO_27.out z84 x29_2 p252 (by first | exact q252 | exact of_decide_eq_true (by first | (with_reducible assumption) | assumption) | (have e_ := (Kd.V_reads' HO_27.out).1; omega))
                          obtain ⟨ua252_2, uc252_2, rfl, ul252_2, ge252_2⟩ := k84_openF hMe252
                          have hv252_2 := hcc252 2 _ rfl
                          rw [add_field _ _ 2 (by omega)] at hv252_2
                          replace hv252_2 := Option.some.inj (hv252_2.symm.trans hx252_2)
                          injection hv252_2 with hva_ hvn_ hvc_
                          rw [hva_] at ge252_2
                          rw [hvc_] at ul252_2
                          have HL252_2 := Aside0.mk (show Kd.V k84 84 _ w.heap.size _ _ ((rd_T84 l0_2 x29_2).f2) from Kd.V_mk ul252_2 ge252_2)
                          clear hva_ hvn_ hvc_ ge252_2 ul252_2
                          clear hcc252 hce252
                          have HR252_2 := Aside0.mk hi252_2
                          have HC252_2 := Aside0.mk hl252_2
                          clear hi252_2 hl252_2
                          replace p252 := eq_true p252
                          replace q252 := eq_true q252
                          try go_wp2_with (first | ((with_reducible refine gate_dst (N := 9) rfl ?_); refine box_event ?hg (N := 9) ?hd (cs := #[.int .i64 0, .string (⟨#[]⟩ : ByteArray), .slice none 0 0]) (t := 84) ?hr ?_; (case hd => rfl); (case hg => rfl); (case hr => first | (go_simp; done) | (go_simp; rfl)); intro gb253 hg w49 hbox hb; have n0_ := Aside0.mk (Kd.V_below (Kd.V_elderB (by (with_reducible repeat (first | apply Kd.V_alloc | apply Kd.V_drewN | apply Kd.V_drew)); exact HO_27.out) gb253 (Nat.le_of_eq hg.symm)) hb); have n1_ := Aside0.mk (Kd.V_below (Kd.V_elderB (by (with_reducible repeat (first | apply Kd.V_alloc | apply Kd.V_drewN | apply Kd.V_drew)); exact HO_245002.out) gb253 (Nat.le_of_eq hg.symm)) hb); have n2_ := Aside0.mk (Kd.N_below (Kd.N_elderB (by (with_reducible repeat (first | apply Kd.N_alloc | apply Kd.N_drewN | apply Kd.N_drew)); exact HO_252002.out) gb253 (Nat.le_of_eq hg.symm)) hb); have n3_ := Aside0.mk (Kd.V_below (Kd.V_elderB (by (with_reducible repeat (first | apply Kd.V_alloc | apply Kd.V_drewN | apply Kd.V_drew)); exact HL252_2.out) gb253 (Nat.le_of_eq hg.symm)) hb); have n4_ := Aside0.mk (blk_below (g := gb244) (o := .cells #[.int .i64 a0_0, .string a0_1, .slice (some ad252) l0_2.length c0_2] 84 (0, 0)) (by (with_reducible repeat (first | refine blk_drewN ?_ _ | refine blk_drew ?_ | refine blk_alloc ?_ _)); exact BK244.out) hb); have n5_ := Aside0.mk (blk_below (g := gb245) (o := .cells #[.int .i64 0, .string (⟨#[]⟩ : ByteArray), .slice none 0 0] 84 (0, 0)) (by (with_reducible repeat (first | refine blk_drewN ?_ _ | refine blk_drew ?_ | refine blk_alloc ?_ _)); exact BK245.out) hb); have n6_ := Aside0.mk (blk_below (g := gb251) (o := .cells #[.int .i64 a0_0, .string a0_1, u252002] 84 (0, 0)) (by (with_reducible repeat (first | refine blk_drewN ?_ _ | refine blk_drew ?_ | refine blk_alloc ?_ _)); exact BK251.out) hb); have n7_ := Aside0.mk (Kd.C_below (by repeat (first | (with_reducible exact HR252_2.out) | (with_reducible refine Kd.C_alloc ?_ _) | (with_reducible refine Kd.C_drewN ?_ _) | (with_reducible refine Kd.C_drew ?_) | exact HR252_2.out)) hb); have n8_ := Aside0.mk (below_step (by repeat (first | (with_reducible first | exact HB.out | apply below_alloc | apply pw_below_drewN | apply below_drew1 | refine below_set ?_ GE244.out | refine below_set ?_ GE245.out | refine below_set ?_ GE251.out) | exact HB.out)) hb); have n9_ := Aside0.mk (hbox); have n10_ := Aside0.mk ((by rw [hg]; exact (below_size (by repeat (first | (with_reducible first | exact HB.out | apply below_alloc | apply pw_below_drewN | apply below_drew1 | refine below_set ?_ GE244.out | refine below_set ?_ GE245.out | refine below_set ?_ GE251.out) | exact HB.out))) : w.heap.size ≤ gb253)); have n11_ := Aside0.mk ((by rw [hg]; exact (below_size (by repeat (first | (with_reducible first | exact HB.out | apply below_alloc | apply pw_below_drewN | apply below_drew1 | refine below_set ?_ GE244.out | refine below_set ?_ GE245.out | refine below_set ?_ GE251.out) | exact HB.out))) : w.heap.size ≤ gb253)); have n12_ := Aside0.mk ((by rw [hg]; exact Nat.ne_of_lt (blk_lt (g := gb244) (o := .cells #[.int .i64 a0_0, .string a0_1, .slice (some ad252) l0_2.length c0_2] 84 (0, 0)) (by (with_reducible repeat (first | refine blk_drewN ?_ _ | refine blk_drew ?_ | refine blk_alloc ?_ _)); exact BK244.out)) : gb244 ≠ gb253)); have n13_ := Aside0.mk ((by rw [hg]; exact Nat.ne_of_gt (blk_lt (g := gb244) (o := .cells #[.int .i64 a0_0, .string a0_1, .slice (some ad252) l0_2.length c0_2] 84 (0, 0)) (by (with_reducible repeat (first | refine blk_drewN ?_ _ | refine blk_drew ?_ | refine blk_alloc ?_ _)); exact BK244.out)) : gb253 ≠ gb244)); have n14_ := Aside0.mk ((by rw [hg]; exact Nat.ne_of_lt (blk_lt (g := gb245) (o := .cells #[.int .i64 0, .string (⟨#[]⟩ : ByteArray), .slice none 0 0] 84 (0, 0)) (by (with_reducible repeat (first | refine blk_drewN ?_ _ | refine blk_drew ?_ | refine blk_alloc ?_ _)); exact BK245.out)) : gb245 ≠ gb253)); have n15_ := Aside0.mk ((by rw [hg]; exact Nat.ne_of_gt (blk_lt (g := gb245) (o := .cells #[.int .i64 0, .string (⟨#[]⟩ : ByteArray), .slice none 0 0] 84 (0, 0)) (by (with_reducible repeat (first | refine blk_drewN ?_ _ | refine blk_drew ?_ | refine blk_alloc ?_ _)); exact BK245.out)) : gb253 ≠ gb245)); have n16_ := Aside0.mk ((by rw [hg]; exact Nat.ne_of_lt (blk_lt (g := gb251) (o := .cells #[.int .i64 a0_0, .string a0_1, u252002] 84 (0, 0)) (by (with_reducible repeat (first | refine blk_drewN ?_ _ | refine blk_drew ?_ | refine blk_alloc ?_ _)); exact BK251.out)) : gb251 ≠ gb253)); have n17_ := Aside0.mk ((by rw [hg]; exact Nat.ne_of_gt (blk_lt (g := gb251) (o := .cells #[.int .i64 a0_0, .string a0_1, u252002] 84 (0, 0)) (by (with_reducible repeat (first | refine blk_drewN ?_ _ | refine blk_drew ?_ | refine blk_alloc ?_ _)); exact BK251.out)) : gb253 ≠ gb251)); clear HO_27; clear HO_245002; clear HO_252002; clear HL252_2; clear BK244; clear BK245; clear BK251; clear HR252_2; clear HB; have HO_27 := n0_; have HO_245002 := n1_; have HO_252002 := n2_; have HL252_2 := n3_; have BK244 := n4_; have BK245 := n5_; have BK251 := n6_; have HR252_2 := n7_; have HB := n8_; have BK253 := n9_; have GW253 := n10_; have GE253 := n11_; have NB244_253 := n12_; have NB253_244 := n13_; have NB245_253 := n14_; have NB253_245 := n15_; have NB251_253 := n16_; have NB253_251 := n17_; clear n0_ n1_ n2_ n3_ n4_ n5_ n6_ n7_ n8_ n9_ n10_ n11_ n12_ n13_ n14_ n15_ n16_ n17_; clear hb hbox hg; have hnb50 := NB253_244.out; have hnc50 := NB244_253.out; have hnb51 := NB253_245.out; have hnc51 := NB245_253.out; have hnb52 := NB253_251.out; have hnc52 := NB251_253.out; have hcz53_0 : w49.cell? ⟨gb253, 0, none⟩ = some (.int .i64 0) := (blk_cell BK253.out 0).trans rfl; have hcz53_1 : w49.cell? ⟨gb253, 1, none⟩ = some (.string (⟨#[]⟩ : ByteArray)) := (blk_cell BK253.out 1).trans rfl; have hcz53_2 : w49.cell? ⟨gb253, 2, none⟩ = some (.slice none 0 0) := (blk_cell BK253.out 2).trans rfl; have hfz53_0 := blk_frozen BK253.out 0; have hfz53_1 := blk_frozen BK253.out 1; have hfz53_2 := blk_frozen BK253.out 2; have hnb54 := NB244_245.out; have hnc54 := NB245_244.out; have hnb55 := NB244_251.out; have hnc55 := NB251_244.out; have hcz56_0 : w49.cell? ⟨gb244, 0, none⟩ = some (.int .i64 a0_0) := (blk_cell BK244.out 0).trans rfl; have hcz56_1 : w49.cell? ⟨gb244, 1, none⟩ = some (.string a0_1) := (blk_cell BK244.out 1).trans rfl; have hcz56_2 : w49.cell? ⟨gb244, 2, none⟩ = some (.slice (some ad252) l0_2.length c0_2) := (blk_cell BK244.out 2).trans rfl; have hfz56_0 := blk_frozen BK244.out 0; have hfz56_1 := blk_frozen BK244.out 1; have hfz56_2 := blk_frozen BK244.out 2))
                          have n0_ : Aside0 (Kd.V k84 84 (((w49.setCell ⟨gb253, 0, none⟩ (.int .i64 ((rd_T84 l0_2 x29_2).f0))).setCell ⟨gb253, 1, none⟩ (.string ((rd_T84 l0_2 x29_2).f1))).setCell ⟨gb253, 2, none⟩ (.slice A252_2 ((rd_T84 l0_2 x29_2).f2).length c252_2)) w.heap.size (fun k_ => (P0_2_ k_ ∨ w.heap.size ≤ k_) ∧ some k_ ≠ (u252002 : Value).ownBlock ∧ k_ ≠ gb244 ∧ k_ ≠ gb245 ∧ k_ ≠ gb251 ∧ k_ ≠ gb253) (.slice (some ad252) l0_2.length c0_2) l0_2) := ⟨by (with_reducible repeat (first | apply Kd.V_alloc | apply Kd.V_drewN | apply Kd.V_drew)); exact Kd.V_mono (Kd.V_far (p := ⟨gb253, 2, none⟩) (Kd.V_far (p := ⟨gb253, 1, none⟩) (Kd.V_far (p := ⟨gb253, 0, none⟩) (Kd.V_mono HO_27.out (fun k_ hk => (⟨hk, hk.2⟩ : _ ∧ k_ ≠ gb253))) (fun _ hk => hk.2) (.int .i64 ((rd_T84 l0_2 x29_2).f0))) (fun _ hk => hk.2) (.string ((rd_T84 l0_2 x29_2).f1))) (fun _ hk => hk.2) (.slice A252_2 ((rd_T84 l0_2 x29_2).f2).length c252_2)) (fun _ hk => ⟨hk.1.1.1, ⟨hk.1.1.2.1, ⟨hk.1.1.2.2.1, ⟨hk.1.1.2.2.2.1, ⟨hk.1.1.2.2.2.2, hk.1.2⟩⟩⟩⟩⟩)⟩
                          have n1_ : Aside0 (Kd.V k84 84 (((w49.setCell ⟨gb253, 0, none⟩ (.int .i64 ((rd_T84 l0_2 x29_2).f0))).setCell ⟨gb253, 1, none⟩ (.string ((rd_T84 l0_2 x29_2).f1))).setCell ⟨gb253, 2, none⟩ (.slice A252_2 ((rd_T84 l0_2 x29_2).f2).length c252_2)) w.heap.size (fun k_ => (P0_2_ k_ ∨ w.heap.size ≤ k_) ∧ some k_ ≠ (u252002 : Value).ownBlock ∧ k_ ≠ gb244 ∧ k_ ≠ gb245 ∧ k_ ≠ gb251 ∧ k_ ≠ gb253) (.slice (some ad252) l0_2.length c0_2) l0_2) := ⟨by (with_reducible repeat (first | apply Kd.V_alloc | apply Kd.V_drewN | apply Kd.V_drew)); exact Kd.V_mono (Kd.V_far (p := ⟨gb253, 2, none⟩) (Kd.V_far (p := ⟨gb253, 1, none⟩) (Kd.V_far (p := ⟨gb253, 0, none⟩) (Kd.V_mono HO_245002.out (fun k_ hk => (⟨hk, hk.2⟩ : _ ∧ k_ ≠ gb253))) (fun _ hk => hk.2) (.int .i64 ((rd_T84 l0_2 x29_2).f0))) (fun _ hk => hk.2) (.string ((rd_T84 l0_2 x29_2).f1))) (fun _ hk => hk.2) (.slice A252_2 ((rd_T84 l0_2 x29_2).f2).length c252_2)) (fun _ hk => ⟨hk.1.1.1, ⟨hk.1.1.2.1, ⟨hk.1.1.2.2.1, ⟨hk.1.1.2.2.2.1, ⟨hk.1.1.2.2.2.2, hk.1.2⟩⟩⟩⟩⟩)⟩
                          have n2_ : Aside0 (Kd.N k84 84 (((w49.setCell ⟨gb253, 0, none⟩ (.int .i64 ((rd_T84 l0_2 x29_2).f0))).setCell ⟨gb253, 1, none⟩ (.string ((rd_T84 l0_2 x29_2).f1))).setCell ⟨gb253, 2, none⟩ (.slice A252_2 ((rd_T84 l0_2 x29_2).f2).length c252_2)) w.heap.size (fun k_ => (P0_2_ k_ ∨ w.heap.size ≤ k_) ∧ k_ ≠ gb244 ∧ k_ ≠ gb245 ∧ k_ ≠ gb251 ∧ k_ ≠ gb253) u252002 x252002_2) := ⟨by (with_reducible repeat (first | apply Kd.N_alloc | apply Kd.N_drewN | apply Kd.N_drew)); exact Kd.N_mono (Kd.N_far (p := ⟨gb253, 2, none⟩) (Kd.N_far (p := ⟨gb253, 1, none⟩) (Kd.N_far (p := ⟨gb253, 0, none⟩) (Kd.N_mono HO_252002.out (fun k_ hk => (⟨hk, hk.2⟩ : _ ∧ k_ ≠ gb253))) (fun _ hk => hk.2) (.int .i64 ((rd_T84 l0_2 x29_2).f0))) (fun _ hk => hk.2) (.string ((rd_T84 l0_2 x29_2).f1))) (fun _ hk => hk.2) (.slice A252_2 ((rd_T84 l0_2 x29_2).f2).length c252_2)) (fun _ hk => ⟨hk.1.1.1, ⟨hk.1.1.2.1, ⟨hk.1.1.2.2.1, ⟨hk.1.1.2.2.2, hk.1.2⟩⟩⟩⟩)⟩
                          have n3_ : Aside0 (Kd.V k84 84 (((w49.setCell ⟨gb253, 0, none⟩ (.int .i64 ((rd_T84 l0_2 x29_2).f0))).setCell ⟨gb253, 1, none⟩ (.string ((rd_T84 l0_2 x29_2).f1))).setCell ⟨gb253, 2, none⟩ (.slice A252_2 ((rd_T84 l0_2 x29_2).f2).length c252_2)) w.heap.size (fun k_ => (P0_2_ k_ ∨ w.heap.size ≤ k_) ∧ some k_ ≠ (u252002 : Value).ownBlock ∧ k_ ≠ gb244 ∧ k_ ≠ gb245 ∧ k_ ≠ gb251 ∧ k_ ≠ gb253) (.slice A252_2 ((rd_T84 l0_2 x29_2).f2).length c252_2) ((rd_T84 l0_2 x29_2).f2)) := ⟨by (with_reducible repeat (first | apply Kd.V_alloc | apply Kd.V_drewN | apply Kd.V_drew)); exact Kd.V_mono (Kd.V_far (p := ⟨gb253, 2, none⟩) (Kd.V_far (p := ⟨gb253, 1, none⟩) (Kd.V_far (p := ⟨gb253, 0, none⟩) (Kd.V_mono HL252_2.out (fun k_ hk => (⟨hk, hk.2⟩ : _ ∧ k_ ≠ gb253))) (fun _ hk => hk.2) (.int .i64 ((rd_T84 l0_2 x29_2).f0))) (fun _ hk => hk.2) (.string ((rd_T84 l0_2 x29_2).f1))) (fun _ hk => hk.2) (.slice A252_2 ((rd_T84 l0_2 x29_2).f2).length c252_2)) (fun _ hk => ⟨hk.1.1.1, ⟨hk.1.1.2.1, ⟨hk.1.1.2.2.1, ⟨hk.1.1.2.2.2.1, ⟨hk.1.1.2.2.2.2, hk.1.2⟩⟩⟩⟩⟩)⟩
                          have n4_ : Aside0 ((((w49.setCell ⟨gb253, 0, none⟩ (.int .i64 ((rd_T84 l0_2 x29_2).f0))).setCell ⟨gb253, 1, none⟩ (.string ((rd_T84 l0_2 x29_2).f1))).setCell ⟨gb253, 2, none⟩ (.slice A252_2 ((rd_T84 l0_2 x29_2).f2).length c252_2)).heap[gb244]? = some (.cells #[.int .i64 a0_0, .string a0_1, .slice (some ad252) l0_2.length c0_2] 84 (0, 0))) := ⟨by (with_reducible repeat (first | refine blk_drewN ?_ _ | refine blk_drew ?_ | refine blk_alloc ?_ _)); refine blk_far ?_ NB244_253.out _; (with_reducible repeat (first | refine blk_drewN ?_ _ | refine blk_drew ?_ | refine blk_alloc ?_ _)); refine blk_far ?_ NB244_253.out _; (with_reducible repeat (first | refine blk_drewN ?_ _ | refine blk_drew ?_ | refine blk_alloc ?_ _)); refine blk_far ?_ NB244_253.out _; (with_reducible repeat (first | refine blk_drewN ?_ _ | refine blk_drew ?_ | refine blk_alloc ?_ _)); exact BK244.out⟩
                          have n5_ : Aside0 ((((w49.setCell ⟨gb253, 0, none⟩ (.int .i64 ((rd_T84 l0_2 x29_2).f0))).setCell ⟨gb253, 1, none⟩ (.string ((rd_T84 l0_2 x29_2).f1))).setCell ⟨gb253, 2, none⟩ (.slice A252_2 ((rd_T84 l0_2 x29_2).f2).length c252_2)).heap[gb245]? = some (.cells #[.int .i64 0, .string (⟨#[]⟩ : ByteArray), .slice none 0 0] 84 (0, 0))) := ⟨by (with_reducible repeat (first | refine blk_drewN ?_ _ | refine blk_drew ?_ | refine blk_alloc ?_ _)); refine blk_far ?_ NB245_253.out _; (with_reducible repeat (first | refine blk_drewN ?_ _ | refine blk_drew ?_ | refine blk_alloc ?_ _)); refine blk_far ?_ NB245_253.out _; (with_reducible repeat (first | refine blk_drewN ?_ _ | refine blk_drew ?_ | refine blk_alloc ?_ _)); refine blk_far ?_ NB245_253.out _; (with_reducible repeat (first | refine blk_drewN ?_ _ | refine blk_drew ?_ | refine blk_alloc ?_ _)); exact BK245.out⟩
                          have n6_ : Aside0 ((((w49.setCell ⟨gb253, 0, none⟩ (.int .i64 ((rd_T84 l0_2 x29_2).f0))).setCell ⟨gb253, 1, none⟩ (.string ((rd_T84 l0_2 x29_2).f1))).setCell ⟨gb253, 2, none⟩ (.slice A252_2 ((rd_T84 l0_2 x29_2).f2).length c252_2)).heap[gb251]? = some (.cells #[.int .i64 a0_0, .string a0_1, u252002] 84 (0, 0))) := ⟨by (with_reducible repeat (first | refine blk_drewN ?_ _ | refine blk_drew ?_ | refine blk_alloc ?_ _)); refine blk_far ?_ NB251_253.out _; (with_reducible repeat (first | refine blk_drewN ?_ _ | refine blk_drew ?_ | refine blk_alloc ?_ _)); refine blk_far ?_ NB251_253.out _; (with_reducible repeat (first | refine blk_drewN ?_ _ | refine blk_drew ?_ | refine blk_alloc ?_ _)); refine blk_far ?_ NB251_253.out _; (with_reducible repeat (first | refine blk_drewN ?_ _ | refine blk_drew ?_ | refine blk_alloc ?_ _)); exact BK251.out⟩
                          have n7_ : Aside0 ((((w49.setCell ⟨gb253, 0, none⟩ (.int .i64 ((rd_T84 l0_2 x29_2).f0))).setCell ⟨gb253, 1, none⟩ (.string ((rd_T84 l0_2 x29_2).f1))).setCell ⟨gb253, 2, none⟩ (.slice A252_2 ((rd_T84 l0_2 x29_2).f2).length c252_2)).heap[gb253]? = some (.cells #[.int .i64 ((rd_T84 l0_2 x29_2).f0), .string ((rd_T84 l0_2 x29_2).f1), .slice A252_2 ((rd_T84 l0_2 x29_2).f2).length c252_2] 84 (0, 0))) := ⟨by (with_reducible repeat (first | refine blk_drewN ?_ _ | refine blk_drew ?_ | refine blk_alloc ?_ _)); refine blk_put (cs := #[.int .i64 ((rd_T84 l0_2 x29_2).f0), .string ((rd_T84 l0_2 x29_2).f1), .slice none 0 0]) ?_ 2 _ rfl; (with_reducible repeat (first | refine blk_drewN ?_ _ | refine blk_drew ?_ | refine blk_alloc ?_ _)); refine blk_put (cs := #[.int .i64 ((rd_T84 l0_2 x29_2).f0), .string (⟨#[]⟩ : ByteArray), .slice none 0 0]) ?_ 1 _ rfl; (with_reducible repeat (first | refine blk_drewN ?_ _ | refine blk_drew ?_ | refine blk_alloc ?_ _)); refine blk_put (cs := #[.int .i64 0, .string (⟨#[]⟩ : ByteArray), .slice none 0 0]) ?_ 0 _ rfl; (with_reducible repeat (first | refine blk_drewN ?_ _ | refine blk_drew ?_ | refine blk_alloc ?_ _)); exact BK253.out⟩
                          have n8_ : Aside0 (Below w.heap.size w (((w49.setCell ⟨gb253, 0, none⟩ (.int .i64 ((rd_T84 l0_2 x29_2).f0))).setCell ⟨gb253, 1, none⟩ (.string ((rd_T84 l0_2 x29_2).f1))).setCell ⟨gb253, 2, none⟩ (.slice A252_2 ((rd_T84 l0_2 x29_2).f2).length c252_2))) := ⟨by repeat (first | (with_reducible first | exact HB.out | apply below_alloc | apply pw_below_drewN | apply below_drew1 | refine below_set ?_ GE244.out | refine below_set ?_ GE245.out | refine below_set ?_ GE251.out | refine below_set ?_ GE253.out) | exact HB.out)⟩
                          (try clear HO_27)
                          (try clear HO_245002)
                          (try clear HO_252002)
                          (try clear HL252_2)
                          (try clear BK244)
                          (try clear BK245)
                          (try clear BK251)
                          (try clear BK253)
                          (try clear HB)
                          generalize (((w49.setCell ⟨gb253, 0, none⟩ (.int .i64 ((rd_T84 l0_2 x29_2).f0))).setCell ⟨gb253, 1, none⟩ (.string ((rd_T84 l0_2 x29_2).f1))).setCell ⟨gb253, 2, none⟩ (.slice A252_2 ((rd_T84 l0_2 x29_2).f2).length c252_2)) = w57 at n0_ n1_ n2_ n3_ n4_ n5_ n6_ n7_ n8_ ⊢
                          have HO_27 := n0_
                          have HO_245002 := n1_
                          have HO_252002 := n2_
                          have HL252_2 := n3_
                          have BK244 := n4_
                          have BK245 := n5_
                          have BK251 := n6_
                          have BK253 := n7_
                          have HB := n8_
                          clear n0_ n1_ n2_ n3_ n4_ n5_ n6_ n7_ n8_
                          have n0_ := Aside0.mk (Kd.V_drew HO_27.out)
                          have n1_ := Aside0.mk (Kd.V_drew HO_245002.out)
                          have n2_ := Aside0.mk (Kd.N_drew HO_252002.out)
                          have n3_ := Aside0.mk (Kd.V_drew HL252_2.out)
                          have n4_ := Aside0.mk (blk_drew BK244.out)
                          have n5_ := Aside0.mk (blk_drew BK245.out)
                          have n6_ := Aside0.mk (blk_drew BK251.out)
                          have n7_ := Aside0.mk (blk_drew BK253.out)
                          have n8_ := Aside0.mk (below_drew1 HB.out)
                          clear HO_27
                          clear HO_245002
                          clear HO_252002
                          clear HL252_2
                          clear BK244
                          clear BK245
                          clear BK251
                          clear BK253
                          clear HB
                          have HO_27 := n0_
                          have HO_245002 := n1_
                          have HO_252002 := n2_
                          have HL252_2 := n3_
                          have BK244 := n4_
                          have BK245 := n5_
                          have BK251 := n6_
                          have BK253 := n7_
                          have HB := n8_
                          clear n0_ n1_ n2_ n3_ n4_ n5_ n6_ n7_ n8_
                          refine start_ (n := 10) (S := fun w' => w'.cell? ⟨gb251, 0, none⟩ = some (.int .i64 a0_0) ∧ w'.cell? ⟨gb251, 1, none⟩ = some (.string a0_1) ∧ w'.cell? ⟨gb251, 2, none⟩ = some (u252002) ∧ w'.cell? ⟨gb253, 0, none⟩ = some (.int .i64 ((rd_T84 l0_2 x29_2).f0)) ∧ w'.cell? ⟨gb253, 1, none⟩ = some (.string ((rd_T84 l0_2 x29_2).f1)) ∧ w'.cell? ⟨gb253, 2, none⟩ = some (.slice A252_2 ((rd_T84 l0_2 x29_2).f2).length c252_2)) (ds := [9]) #[false, false, false, false, false, false, false, false, false, false] (by kernel_rfl) rfl rfl ⟨(blk_cell BK251.out 0).trans rfl, (blk_cell BK251.out 1).trans rfl, (blk_cell BK251.out 2).trans rfl, (blk_cell BK253.out 0).trans rfl, (blk_cell BK253.out 1).trans rfl, (blk_cell BK253.out 2).trans rfl⟩ (fun hHeld => ?_); refine with_tabW saplinglaw13_put.tab9 saplinglaw13_put.bits9 (fun HT_ HW_ => ?_)
                          generalize w57.drew = w58 at HO_27 HO_245002 HO_252002 HL252_2 BK244 BK245 BK251 BK253 HB hHeld ⊢
                          refine pure_ (i := 0) (N := some 53) (v := ?_) (a' := ?_) #[true, false, false, false, false, false, false, false, false, false] rfl rfl (any_of HT_.out (by kernel_rfl)) (fun _ _ _ h => h) (Or.inl ⟨by rfl, ?_⟩) ?_ ?_
                          rotate_left
                          · intro w'
                            go_simp
                            with_reducible rfl
                          rotate_left
                          · simp only [Act.put, List.setIfInBounds_toArray, List.set_cons_zero, List.set_cons_succ, i64_w, i32_w]
                            rfl
                          refine pure_ (i := 3) (N := some 56) (v := ?_) (a' := ?_) #[true, false, false, true, false, false, false, false, false, false] rfl rfl (any_of HT_.out (by kernel_rfl)) (fun _ _ _ h => h) (Or.inl ⟨by rfl, ?_⟩) ?_ ?_
                          rotate_left
                          · intro w'
                            go_simp
                            with_reducible rfl
                          rotate_left
                          · simp only [Act.put, List.setIfInBounds_toArray, List.set_cons_zero, List.set_cons_succ, i64_w, i32_w]
                            rfl
                          refine pure_ (i := 4) (N := some 57) (v := ?_) (a' := ?_) #[true, false, false, true, true, false, false, false, false, false] rfl rfl (any_of HT_.out (by kernel_rfl)) (fun _ _ _ h => h) (Or.inl ⟨by rfl, ?_⟩) ?_ ?_
                          rotate_left
                          · intro w'
                            go_simp
                            with_reducible rfl
                          rotate_left
                          · simp only [Act.put, List.setIfInBounds_toArray, List.set_cons_zero, List.set_cons_succ, i64_w, i32_w]
                            rfl
                          refine take_ (i := 1) (N := some 54) (v := ?_) (a' := ?_) #[true, true, false, true, true, false, false, false, false, false] rfl rfl (take_ofW HT_.out HW_.out (by kernel_rfl)) (fun _ _ _ h => h) (Or.inl ⟨by rfl, ?_⟩) hHeld ?_ ?_
                          rotate_left
                          · rintro w' ⟨s0, s1, s2, s3, s4, s5⟩
                            go_simp
                            with_reducible rfl
                          rotate_left
                          · simp only [Act.put, List.setIfInBounds_toArray, List.set_cons_zero, List.set_cons_succ, i64_w, i32_w]
                            rfl
                          refine take_ (i := 2) (N := some 55) (v := ?_) (a' := ?_) #[true, true, true, true, true, false, false, false, false, false] rfl rfl (take_ofW HT_.out HW_.out (by kernel_rfl)) (fun _ _ _ h => h) (Or.inl ⟨by rfl, ?_⟩) hHeld ?_ ?_
                          rotate_left
                          · rintro w' ⟨s0, s1, s2, s3, s4, s5⟩
                            go_simp
                            with_reducible rfl
                          rotate_left
                          · simp only [Act.put, List.setIfInBounds_toArray, List.set_cons_zero, List.set_cons_succ, i64_w, i32_w]
                            rfl
                          refine one_ (i := 5) (N := some 58) #[true, true, true, true, true, true, false, false, false, false] rfl rfl (one_of HT_.out (by kernel_rfl)) (by decide) (fun K hK => ?_)
                          refine goes_ Tryz.func50 (by kernel_rfl) rfl #[.agg #[.int .i64 ((rd_T84 l0_2 x29_2).f0), .string ((rd_T84 l0_2 x29_2).f1), .slice A252_2 ((rd_T84 l0_2 x29_2).f2).length c252_2], .string a1, .string a2] (by rfl) rfl rfl (by (try simp only [List.map_toArray, List.map_cons, List.map_nil]); first | done | rfl | (simp only [List.length_drop, List.length_take]; rfl)) ?_
                          with_reducible refine (ih k2 (by have := HJ3.out; have := HK2.out; omega) ((rd_T84 l0_2 x29_2).f0) ((rd_T84 l0_2 x29_2).f1) (fun k_ => ((P0_2_ k_ ∨ w.heap.size ≤ k_) ∧ (some k_ ≠ (u252002 : Value).ownBlock ∧ (k_ ≠ gb244 ∧ (k_ ≠ gb245 ∧ (k_ ≠ gb251 ∧ k_ ≠ gb253)))))) _ _ ((rd_T84 l0_2 x29_2).f2) a1 a2 t257 t258 t259 _ ?side1 A47.out).mono ?_
                          (case side1 => exact HL252_2.out)
                          rintro e w59 ⟨v260, rfl, ho0, hb⟩
                          refine ⟨_, rfl, ?_⟩
                          have n0_ := Aside0.mk (Kd.V_elder' (by (with_reducible repeat (first | apply Kd.V_alloc | apply Kd.V_drewN | apply Kd.V_drew)); exact HO_27.out) (Kd.N_base ho0) hb)
                          have n1_ := Aside0.mk (Kd.V_elder' (by (with_reducible repeat (first | apply Kd.V_alloc | apply Kd.V_drewN | apply Kd.V_drew)); exact HO_245002.out) (Kd.N_base ho0) hb)
                          have n2_ := Aside0.mk (Kd.N_elder' (by (with_reducible repeat (first | apply Kd.N_alloc | apply Kd.N_drewN | apply Kd.N_drew)); exact HO_252002.out) (Kd.N_base ho0) hb)
                          have n3_ := Aside0.mk (Kd.V_elder' (by (with_reducible repeat (first | apply Kd.V_alloc | apply Kd.V_drewN | apply Kd.V_drew)); exact HL252_2.out) (Kd.N_base ho0) hb)
                          have n4_ := Aside0.mk (Kd.N_lower (Kd.N_mono (ok' := fun k_ => (P0_2_ k_ ∨ w.heap.size ≤ k_) ∧ some k_ ≠ (u252002 : Value).ownBlock ∧ k_ ≠ gb244 ∧ k_ ≠ gb245 ∧ k_ ≠ gb251 ∧ k_ ≠ gb253) ho0 (fun k_ hk_ => ⟨Or.elim hk_ (fun hs_ => hs_.1) (fun hn_ => (.inr (Nat.le_trans (below_size (by repeat (first | (with_reducible first | exact HB.out | apply below_alloc | apply pw_below_drewN | apply below_drew1 | refine below_set ?_ GE244.out | refine below_set ?_ GE245.out | refine below_set ?_ GE251.out | refine below_set ?_ GE253.out) | exact HB.out))) hn_))), Or.elim hk_ (fun hs_ => hs_.2.1) (fun hn_ => (Kd.fresh' (Kd.N_lt (by (with_reducible repeat (first | apply Kd.N_alloc | apply Kd.N_drewN | apply Kd.N_drew)); exact HO_252002.out)) k_ hn_)), Or.elim hk_ (fun hs_ => hs_.2.2.1) (fun hn_ => (Kd.freshB (g := gb244) (o := .cells #[.int .i64 a0_0, .string a0_1, .slice (some ad252) l0_2.length c0_2] 84 (0, 0)) (by (with_reducible repeat (first | refine blk_drewN ?_ _ | refine blk_drew ?_ | refine blk_alloc ?_ _)); exact BK244.out) k_ hn_)), Or.elim hk_ (fun hs_ => hs_.2.2.2.1) (fun hn_ => (Kd.freshB (g := gb245) (o := .cells #[.int .i64 0, .string (⟨#[]⟩ : ByteArray), .slice none 0 0] 84 (0, 0)) (by (with_reducible repeat (first | refine blk_drewN ?_ _ | refine blk_drew ?_ | refine blk_alloc ?_ _)); exact BK245.out) k_ hn_)), Or.elim hk_ (fun hs_ => hs_.2.2.2.2.1) (fun hn_ => (Kd.freshB (g := gb251) (o := .cells #[.int .i64 a0_0, .string a0_1, u252002] 84 (0, 0)) (by (with_reducible repeat (first | refine blk_drewN ?_ _ | refine blk_drew ?_ | refine blk_alloc ?_ _)); exact BK251.out) k_ hn_)), Or.elim hk_ (fun hs_ => hs_.2.2.2.2.2) (fun hn_ => (Kd.freshB (g := gb253) (o := .cells #[.int .i64 ((rd_T84 l0_2 x29_2).f0), .string ((rd_T84 l0_2 x29_2).f1), .slice A252_2 ((rd_T84 l0_2 x29_2).f2).length c252_2] 84 (0, 0)) (by (with_reducible repeat (first | refine blk_drewN ?_ _ | refine blk_drew ?_ | refine blk_alloc ?_ _)); exact BK253.out) k_ hn_))⟩)) (below_size (by repeat (first | (with_reducible first | exact HB.out | apply below_alloc | apply pw_below_drewN | apply below_drew1 | refine below_set ?_ GE244.out | refine below_set ?_ GE245.out | refine below_set ?_ GE251.out | refine below_set ?_ GE253.out) | exact HB.out))))
                          have n5_ := Aside0.mk (blk_below (g := gb244) (o := .cells #[.int .i64 a0_0, .string a0_1, .slice (some ad252) l0_2.length c0_2] 84 (0, 0)) (by (with_reducible repeat (first | refine blk_drewN ?_ _ | refine blk_drew ?_ | refine blk_alloc ?_ _)); exact BK244.out) hb)
                          have n6_ := Aside0.mk (blk_below (g := gb245) (o := .cells #[.int .i64 0, .string (⟨#[]⟩ : ByteArray), .slice none 0 0] 84 (0, 0)) (by (with_reducible repeat (first | refine blk_drewN ?_ _ | refine blk_drew ?_ | refine blk_alloc ?_ _)); exact BK245.out) hb)
                          have n7_ := Aside0.mk (blk_below (g := gb251) (o := .cells #[.int .i64 a0_0, .string a0_1, u252002] 84 (0, 0)) (by (with_reducible repeat (first | refine blk_drewN ?_ _ | refine blk_drew ?_ | refine blk_alloc ?_ _)); exact BK251.out) hb)
                          have n8_ := Aside0.mk (blk_below (g := gb253) (o := .cells #[.int .i64 ((rd_T84 l0_2 x29_2).f0), .string ((rd_T84 l0_2 x29_2).f1), .slice A252_2 ((rd_T84 l0_2 x29_2).f2).length c252_2] 84 (0, 0)) (by (with_reducible repeat (first | refine blk_drewN ?_ _ | refine blk_drew ?_ | refine blk_alloc ?_ _)); exact BK253.out) hb)
                          have n9_ := Aside0.mk (below_step (by repeat (first | (with_reducible first | exact HB.out | apply below_alloc | apply pw_below_drewN | apply below_drew1 | refine below_set ?_ GE244.out | refine below_set ?_ GE245.out | refine below_set ?_ GE251.out | refine below_set ?_ GE253.out) | exact HB.out)) hb)
                          clear HO_27
                          clear HO_245002
                          clear HO_252002
                          clear HL252_2
                          clear BK244
                          clear BK245
                          clear BK251
                          clear BK253
                          clear HB
                          have HO_27 := n0_
                          have HO_245002 := n1_
                          have HO_252002 := n2_
                          have HL252_2 := n3_
                          have HO261 := n4_
                          have BK244 := n5_
                          have BK245 := n6_
                          have BK251 := n7_
                          have BK253 := n8_
                          have HB := n9_
                          clear n0_ n1_ n2_ n3_ n4_ n5_ n6_ n7_ n8_ n9_
                          (try clear hb)
                          (try clear hb2)
                          (try clear hk)
                          (try clear hi)
                          (try clear ho0)
                          obtain ⟨Ao61, co61, eo61⟩ := Kd.N_slice HO261.out
                          (first | subst eo61 | (injection eo61 with f1_ f2_ f3_; have f4_ := f1_.symm; have f5_ := f3_.symm; clear f1_ f2_ f3_; subst f4_; subst f5_))
                          refine hK.out _ _ ⟨(blk_cell BK251.out 0).trans rfl, (blk_cell BK251.out 1).trans rfl, (blk_cell BK251.out 2).trans rfl, (blk_cell BK253.out 0).trans rfl, (blk_cell BK253.out 1).trans rfl, (blk_cell BK253.out 2).trans rfl⟩ (fun hHeld => ?_)
                          clear hK K
                          refine norm_ (a' := ?_) ?_ ?_
                          rotate_left
                          · show Act.put _ (some 58) _ = _
                            simp only [Act.put, List.setIfInBounds_toArray, List.set_cons_zero, List.set_cons_succ, i64_w, i32_w]
                            rfl
                          refine one_ (i := 6) (N := some 59) #[true, true, true, true, true, true, true, false, false, false] rfl rfl (one_of HT_.out (by kernel_rfl)) (by decide) (fun K hK => ?_)
                          refine value_ (w1 := ?_) (v := ?_) (by rfl) rfl ?_ ?_
                          rotate_left 2
                          · go_simp
                            constructor
                            · rfl
                            · rfl
                          refine hK.out _ _ ⟨(blk_cell (blk_alloc BK251.out _) 0).trans rfl, (blk_cell (blk_alloc BK251.out _) 1).trans rfl, (blk_cell (blk_alloc BK251.out _) 2).trans rfl, (blk_cell (blk_alloc BK253.out _) 0).trans rfl, (blk_cell (blk_alloc BK253.out _) 1).trans rfl, (blk_cell (blk_alloc BK253.out _) 2).trans rfl⟩ (fun hHeld => ?_)
                          clear hK K
                          refine norm_ (a' := ?_) ?_ ?_
                          rotate_left
                          · show Act.put _ (some 59) _ = _
                            simp only [Act.put, List.setIfInBounds_toArray, List.set_cons_zero, List.set_cons_succ, i64_w, i32_w]
                            rfl
                          refine one_ (i := 7) (N := some 60) #[true, true, true, true, true, true, true, true, false, false] rfl rfl (one_of HT_.out (by kernel_rfl)) (by decide) (fun K hK => ?_)
                          refine Kd.N_append_step k84 (w0 := w) w.heap.size (by rfl) (.tmp 54) (.tmp 59) 82 84 (.agg #[(.int .i64 0), (.string ⟨#[]⟩), (.slice none 0 0)]) 48 rfl Tryz.underlying82 info84 rfl (by decide) (by omega) u252002 x252002_2 (⟨t257, t258, t259⟩ : S84) [.int .i64 t257, .string t258, .slice Ao61 t259.length co61] (fun k_ => (P0_2_ k_ ∨ w.heap.size ≤ k_) ∧ k_ ≠ gb244 ∧ k_ ≠ gb245 ∧ k_ ≠ gb251 ∧ k_ ≠ gb253) (fun k_ => ((fun k_ => (P0_2_ k_ ∨ w.heap.size ≤ k_) ∧ k_ ≠ gb244 ∧ k_ ≠ gb245 ∧ k_ ≠ gb251 ∧ k_ ≠ gb253)) k_ ∧ some k_ ≠ (u252002 : Value).ownBlock) rfl rfl ?aP (fun _ hk => hk) ?aF ?aO ?aB ?aS ?aL ?_
                          (case aP => exact (k84_mkF _ _ (⟨t257, t258, t259⟩ : S84) (Kd.N_reads' (Kd.N_mono (ok' := (fun k_ => ((fun k_ => (P0_2_ k_ ∨ w.heap.size ≤ k_) ∧ k_ ≠ gb244 ∧ k_ ≠ gb245 ∧ k_ ≠ gb251 ∧ k_ ≠ gb253)) k_ ∧ some k_ ≠ (u252002 : Value).ownBlock)) (HO261.out) (fun k_ hk => ⟨⟨hk.1, ⟨hk.2.2.1, ⟨hk.2.2.2.1, ⟨hk.2.2.2.2.1, hk.2.2.2.2.2⟩⟩⟩⟩, hk.2.1⟩))).2.1 (Kd.N_F (Kd.N_mono (ok' := (fun k_ => ((fun k_ => (P0_2_ k_ ∨ w.heap.size ≤ k_) ∧ k_ ≠ gb244 ∧ k_ ≠ gb245 ∧ k_ ≠ gb251 ∧ k_ ≠ gb253)) k_ ∧ some k_ ≠ (u252002 : Value).ownBlock)) (HO261.out) (fun k_ hk => ⟨⟨hk.1, ⟨hk.2.2.1, ⟨hk.2.2.2.1, ⟨hk.2.2.2.2.1, hk.2.2.2.2.2⟩⟩⟩⟩, hk.2.1⟩)))))
                          (case aB => exact (by repeat (first | (with_reducible first | exact HB.out | apply below_alloc | apply pw_below_drewN | apply below_drew1 | refine below_set ?_ GE244.out | refine below_set ?_ GE245.out | refine below_set ?_ GE251.out | refine below_set ?_ GE253.out) | exact HB.out)))
                          (case aF => exact (fun k_ hk => ⟨(.inr (Nat.le_trans (below_size (by repeat (first | (with_reducible first | exact HB.out | apply below_alloc | apply pw_below_drewN | apply below_drew1 | refine below_set ?_ GE244.out | refine below_set ?_ GE245.out | refine below_set ?_ GE251.out | refine below_set ?_ GE253.out) | exact HB.out))) hk)), Kd.freshB (g := gb244) (o := .cells #[.int .i64 a0_0, .string a0_1, .slice (some ad252) l0_2.length c0_2] 84 (0, 0)) (by (with_reducible repeat (first | refine blk_drewN ?_ _ | refine blk_drew ?_ | refine blk_alloc ?_ _)); exact BK244.out) k_ hk, Kd.freshB (g := gb245) (o := .cells #[.int .i64 0, .string (⟨#[]⟩ : ByteArray), .slice none 0 0] 84 (0, 0)) (by (with_reducible repeat (first | refine blk_drewN ?_ _ | refine blk_drew ?_ | refine blk_alloc ?_ _)); exact BK245.out) k_ hk, Kd.freshB (g := gb251) (o := .cells #[.int .i64 a0_0, .string a0_1, u252002] 84 (0, 0)) (by (with_reducible repeat (first | refine blk_drewN ?_ _ | refine blk_drew ?_ | refine blk_alloc ?_ _)); exact BK251.out) k_ hk, Kd.freshB (g := gb253) (o := .cells #[.int .i64 ((rd_T84 l0_2 x29_2).f0), .string ((rd_T84 l0_2 x29_2).f1), .slice A252_2 ((rd_T84 l0_2 x29_2).f2).length c252_2] 84 (0, 0)) (by (with_reducible repeat (first | refine blk_drewN ?_ _ | refine blk_drew ?_ | refine blk_alloc ?_ _)); exact BK253.out) k_ hk⟩))
                          (case aO => exact (by (with_reducible repeat (first | apply Kd.N_alloc | apply Kd.N_drewN | apply Kd.N_drew)); exact Kd.N_mono HO_252002.out (fun _ hk => ⟨hk.1.1, ⟨hk.1.2.1, ⟨hk.1.2.2.1, ⟨hk.1.2.2.2.1, hk.1.2.2.2.2⟩⟩⟩⟩)))
                          (case aS => exact (below_size (by repeat (first | (with_reducible first | exact HB.out | apply below_alloc | apply pw_below_drewN | apply below_drew1 | refine below_set ?_ GE244.out | refine below_set ?_ GE245.out | refine below_set ?_ GE251.out | refine below_set ?_ GE253.out) | exact HB.out))))
                          (case aL => have := LMc48.out; omega)
                          intro v263 w60 ho hb hg hat
                          rw [← Ny262.out] at ho
                          have n0_ := Aside0.mk (Kd.V_afterv (ok := (fun k_ => (P0_2_ k_ ∨ w.heap.size ≤ k_) ∧ some k_ ≠ (.slice Ao61 t259.length co61 : Value).ownBlock ∧ k_ ≠ gb244 ∧ k_ ≠ gb245 ∧ k_ ≠ gb251 ∧ k_ ≠ gb253)) (by (with_reducible repeat (first | apply Kd.V_alloc | apply Kd.V_drewN | apply Kd.V_drew)); exact Kd.V_mono HO_27.out (fun _ hk => ⟨⟨hk.1.1, ⟨hk.2, ⟨hk.1.2.2.1, ⟨hk.1.2.2.2.1, ⟨hk.1.2.2.2.2.1, hk.1.2.2.2.2.2⟩⟩⟩⟩⟩, hk.1.2.1⟩)) hg hat)
                          have n1_ := Aside0.mk (Kd.V_afterv (ok := (fun k_ => (P0_2_ k_ ∨ w.heap.size ≤ k_) ∧ some k_ ≠ (.slice Ao61 t259.length co61 : Value).ownBlock ∧ k_ ≠ gb244 ∧ k_ ≠ gb245 ∧ k_ ≠ gb251 ∧ k_ ≠ gb253)) (by (with_reducible repeat (first | apply Kd.V_alloc | apply Kd.V_drewN | apply Kd.V_drew)); exact Kd.V_mono HO_245002.out (fun _ hk => ⟨⟨hk.1.1, ⟨hk.2, ⟨hk.1.2.2.1, ⟨hk.1.2.2.2.1, ⟨hk.1.2.2.2.2.1, hk.1.2.2.2.2.2⟩⟩⟩⟩⟩, hk.1.2.1⟩)) hg hat)
                          have n2_ := Aside0.mk (blk_grown (g := gb244) (o := .cells #[.int .i64 a0_0, .string a0_1, .slice (some ad252) l0_2.length c0_2] 84 (0, 0)) (by (with_reducible repeat (first | refine blk_drewN ?_ _ | refine blk_drew ?_ | refine blk_alloc ?_ _)); exact BK244.out) hg (Kd.N_away HO_252002.out (fun _ hk => hk.1.2.1)))
                          have n3_ := Aside0.mk (blk_grown (g := gb245) (o := .cells #[.int .i64 0, .string (⟨#[]⟩ : ByteArray), .slice none 0 0] 84 (0, 0)) (by (with_reducible repeat (first | refine blk_drewN ?_ _ | refine blk_drew ?_ | refine blk_alloc ?_ _)); exact BK245.out) hg (Kd.N_away HO_252002.out (fun _ hk => hk.1.2.2.1)))
                          have n4_ := Aside0.mk (blk_grown (g := gb251) (o := .cells #[.int .i64 a0_0, .string a0_1, u252002] 84 (0, 0)) (by (with_reducible repeat (first | refine blk_drewN ?_ _ | refine blk_drew ?_ | refine blk_alloc ?_ _)); exact BK251.out) hg (Kd.N_away HO_252002.out (fun _ hk => hk.1.2.2.2.1)))
                          have n5_ := Aside0.mk (Kd.V_afterv (ok := (fun k_ => (P0_2_ k_ ∨ w.heap.size ≤ k_) ∧ some k_ ≠ (.slice Ao61 t259.length co61 : Value).ownBlock ∧ k_ ≠ gb244 ∧ k_ ≠ gb245 ∧ k_ ≠ gb251 ∧ k_ ≠ gb253)) (by (with_reducible repeat (first | apply Kd.V_alloc | apply Kd.V_drewN | apply Kd.V_drew)); exact Kd.V_mono HL252_2.out (fun _ hk => ⟨⟨hk.1.1, ⟨hk.2, ⟨hk.1.2.2.1, ⟨hk.1.2.2.2.1, ⟨hk.1.2.2.2.2.1, hk.1.2.2.2.2.2⟩⟩⟩⟩⟩, hk.1.2.1⟩)) hg hat)
                          have n6_ := Aside0.mk (blk_grown (g := gb253) (o := .cells #[.int .i64 ((rd_T84 l0_2 x29_2).f0), .string ((rd_T84 l0_2 x29_2).f1), .slice A252_2 ((rd_T84 l0_2 x29_2).f2).length c252_2] 84 (0, 0)) (by (with_reducible repeat (first | refine blk_drewN ?_ _ | refine blk_drew ?_ | refine blk_alloc ?_ _)); exact BK253.out) hg (Kd.N_away HO_252002.out (fun _ hk => hk.1.2.2.2.2)))
                          have n7_ := Aside0.mk (hb)
                          have n8_ := Aside0.mk (ho)
                          clear HO_27
                          clear HO_245002
                          clear BK244
                          clear BK245
                          clear BK251
                          clear HL252_2
                          clear BK253
                          clear HB
                          clear HO_252002
                          clear HO261
                          have HO_27 := n0_
                          have HO_245002 := n1_
                          have BK244 := n2_
                          have BK245 := n3_
                          have BK251 := n4_
                          have HL252_2 := n5_
                          have BK253 := n6_
                          have HB := n7_
                          have HO264 := n8_
                          clear n0_ n1_ n2_ n3_ n4_ n5_ n6_ n7_ n8_
                          clear ho hb hg hat
                          obtain ⟨Ao62, co62, eo62⟩ := Kd.N_slice HO264.out
                          (first | subst eo62 | (injection eo62 with f1_ f2_ f3_; have f4_ := f1_.symm; have f5_ := f3_.symm; clear f1_ f2_ f3_; subst f4_; subst f5_))
                          refine hK.out _ _ ⟨(blk_cell BK251.out 0).trans rfl, (blk_cell BK251.out 1).trans rfl, (blk_cell BK251.out 2).trans rfl, (blk_cell BK253.out 0).trans rfl, (blk_cell BK253.out 1).trans rfl, (blk_cell BK253.out 2).trans rfl⟩ (fun hHeld => ?_)
                          clear hK K
                          refine norm_ (a' := ?_) ?_ ?_
                          rotate_left
                          · show Act.put _ (some 60) _ = _
                            simp only [Act.put, List.setIfInBounds_toArray, List.set_cons_zero, List.set_cons_succ, i64_w, i32_w]
                            rfl
                          refine pure_ (i := 8) (N := some 61) (v := ?_) (a' := ?_) #[true, true, true, true, true, true, true, true, true, false] rfl rfl (any_of HT_.out (by kernel_rfl)) (fun _ _ _ h => h) (Or.inl ⟨by rfl, ?_⟩) ?_ ?_
                          rotate_left
                          · intro w'
                            go_simp
                            with_reducible rfl
                          rotate_left
                          · simp only [Act.put, List.setIfInBounds_toArray, List.set_cons_zero, List.set_cons_succ, i64_w, i32_w]
                            rfl
                          refine last_ (i := 9) (N := none) #[true, true, true, true, true, true, true, true, true, true] rfl rfl (one_of HT_.out (by kernel_rfl)) (by decide) (fun K hK => ?_)
                          have hs63 : w60.cell? ⟨gb251, 2, none⟩ = some (u252002) := (blk_cell BK251.out 2).trans rfl
                          have hfs63 := blk_frozen BK251.out 2
                          have hns63_0 := NB244_251.out
                          have hns63_1 := NB245_251.out
                          have hns63_3 := NB253_251.out
                          have hms63_0 := NB251_244.out
                          have hms63_1 := NB251_245.out
                          have hms63_3 := NB251_253.out
                          refine skip_ (w1 := ?_) (by rfl) rfl ?_ ?_
                          rotate_left
                          · go_simp
                            rfl
                          refine hK.out _ _ ?_
                          clear hK K
                          refine done_ (done_of HT_.out (by kernel_rfl)) ?_
                          try go_wp2
                          go_roundg k2
                          case measure => have := HJ3.out; have := HK2.out; omega
                          case rel => exact ⟨(wrap64 (x29_2 + 1)), (y262), (.slice Ao62 y262.length co62), (by first | rfl | (simp; done) | (simp [*]; done) | (have e_ : ∀ l : List UInt8, (l != []) = !l.isEmpty := (fun l => by cases l <;> rfl); simp [e_]; done)), H', ⟨by have := HJ3.out; have := HK2.out; omega⟩, ⟨by (with_reducible repeat (first | apply Kd.V_alloc | apply Kd.V_drewN | apply Kd.V_drew)); exact Kd.V_mono (Kd.V_far (p := ⟨gb251, 2, none⟩) (Kd.V_mono HO_27.out (fun k_ hk => (⟨hk, hk.1.2.2.2.2.1⟩ : _ ∧ k_ ≠ gb251))) (fun _ hk => hk.2) (.slice Ao62 y262.length co62)) (fun _ hk => ⟨hk.1.1.1, ⟨hk.1.2, ⟨hk.1.1.2.2.1, ⟨hk.1.1.2.2.2.1, hk.1.1.2.2.2.2.1⟩⟩⟩⟩)⟩, ⟨by (with_reducible repeat (first | apply Kd.V_alloc | apply Kd.V_drewN | apply Kd.V_drew)); exact Kd.V_mono (Kd.V_far (p := ⟨gb251, 2, none⟩) (Kd.V_mono HO_245002.out (fun k_ hk => (⟨hk, hk.1.2.2.2.2.1⟩ : _ ∧ k_ ≠ gb251))) (fun _ hk => hk.2) (.slice Ao62 y262.length co62)) (fun _ hk => ⟨hk.1.1.1, ⟨hk.1.2, ⟨hk.1.1.2.2.1, ⟨hk.1.1.2.2.2.1, hk.1.1.2.2.2.2.1⟩⟩⟩⟩)⟩, ⟨by (with_reducible repeat (first | apply Kd.N_alloc | apply Kd.N_drewN | apply Kd.N_drew)); exact Kd.N_mono (Kd.N_far (p := ⟨gb251, 2, none⟩) (Kd.N_mono HO264.out (fun k_ hk => (⟨hk, hk.2.2.2.1⟩ : _ ∧ k_ ≠ gb251))) (fun _ hk => hk.2) (.slice Ao62 y262.length co62)) (fun _ hk => ⟨hk.1.1, ⟨hk.1.2.1, ⟨hk.1.2.2.1, hk.1.2.2.2.1⟩⟩⟩)⟩, ⟨by (with_reducible repeat (first | refine blk_drewN ?_ _ | refine blk_drew ?_ | refine blk_alloc ?_ _)); refine blk_far ?_ NB244_251.out _; (with_reducible repeat (first | refine blk_drewN ?_ _ | refine blk_drew ?_ | refine blk_alloc ?_ _)); exact BK244.out⟩, ⟨by (with_reducible repeat (first | refine blk_drewN ?_ _ | refine blk_drew ?_ | refine blk_alloc ?_ _)); refine blk_far ?_ NB245_251.out _; (with_reducible repeat (first | refine blk_drewN ?_ _ | refine blk_drew ?_ | refine blk_alloc ?_ _)); exact BK245.out⟩, ⟨by (with_reducible repeat (first | refine blk_drewN ?_ _ | refine blk_drew ?_ | refine blk_alloc ?_ _)); refine blk_put (cs := #[.int .i64 a0_0, .string a0_1, u252002]) ?_ 2 _ rfl; (with_reducible repeat (first | refine blk_drewN ?_ _ | refine blk_drew ?_ | refine blk_alloc ?_ _)); exact BK251.out⟩, ⟨by repeat (first | (with_reducible first | exact HB.out | apply below_alloc | apply pw_below_drewN | apply below_drew1 | refine below_set ?_ GE244.out | refine below_set ?_ GE245.out | refine below_set ?_ GE251.out | refine below_set ?_ GE253.out) | exact HB.out)⟩⟩
                        · rw [if_neg c48] at H
                          exact absurd H (by simp)
                    · rw [if_neg c29] at H
                      have c29b0 : (a0_1.toList == a1.toList) = false := beq_eq_false_iff_ne.mpr c29
                      have c29b1 : (a0_1.toList != a1.toList) = true := bne_iff_ne.mpr c29
                      replace H := Option.bind_eq_some_iff.mp H
                      obtain ⟨⟨t265, t266, t267⟩, A640, H⟩ := H
                      replace H : (if x252002_2.length < 2932031007402 then (saplinglaw13_put.l0 k2 a1 a2 l0_2 (l0_2.length : Int) (wrap64 (x29_2 + 1)) a0_0 a0_1 l0_2 a0_0 a0_1 (x252002_2 ++ [(⟨t265, t266, t267⟩ : S84)])) else (none)) = some (r1, r2, r3) := H
                      have A64 := Aside0.mk A640
                      clear A640
                      by_cases c65 : x252002_2.length < 2932031007402
                      · rw [if_pos c65] at H
                        have LMc65 := Aside0.mk c65
                        clear c65
                        obtain ⟨y270, hy270⟩ : ∃ y_ : List (S84), y_ = (x252002_2 ++ [(⟨t265, t266, t267⟩ : S84)]) := ⟨_, rfl⟩
                        replace H : (saplinglaw13_put.l0 k2 a1 a2 l0_2 (l0_2.length : Int) (wrap64 (x29_2 + 1)) a0_0 a0_1 l0_2 a0_0 a0_1 y270) = some (r1, r2, r3) := by first | (rw [hy270]; with_reducible exact H) | (have H2_ := (Option.bind_some _ _).symm.trans H; rw [hy270]; with_reducible exact H2_) | (have H2_ := (Option.bind_some _ _).symm.trans H; with_reducible exact H2_) | with_reducible exact H | (rw [hy270]; exact H) | exact H
                        have Ny270 := Aside0.mk hy270
                        clear hy270
                        have H' := Aside0.mk H
                        clear H
                        have p252 : 0 ≤ (x29_2 : Int) := of_decide_eq_true (by first | (with_reducible assumption) | assumption)
                        have q252 : x29_2 < (l0_2.length : Int) := of_decide_eq_true (by first | (with_reducible assumption) | assumption)
                        obtain ⟨ad252, A252_2, c252_2, e252, hx252_0, hx252_1, hx252_2, hl252_2, hi252_2⟩ := at_T84 (Kd.V_reads' HO_27.out).2.2 x29_2 p252 q252
                        cases e252
                        obtain ⟨ce252, hce252, hMe252, hcc252⟩ := Kd.V_get HO_27.out z84 x29_2 p252 (by first | exact q252 | exact of_decide_eq_true (by first | (with_reducible assumption) | assumption) | (have e_ := (Kd.V_reads' HO_27.out).1; omega))
                        obtain ⟨ua252_2, uc252_2, rfl, ul252_2, ge252_2⟩ := k84_openF hMe252
                        have hv252_2 := hcc252 2 _ rfl
                        rw [add_field _ _ 2 (by omega)] at hv252_2
                        replace hv252_2 := Option.some.inj (hv252_2.symm.trans hx252_2)
                        injection hv252_2 with hva_ hvn_ hvc_
                        rw [hva_] at ge252_2
                        rw [hvc_] at ul252_2
                        have HL252_2 := Aside0.mk (show Kd.V k84 84 _ w.heap.size _ _ ((rd_T84 l0_2 x29_2).f2) from Kd.V_mk ul252_2 ge252_2)
                        clear hva_ hvn_ hvc_ ge252_2 ul252_2
                        clear hcc252 hce252
                        have HR252_2 := Aside0.mk hi252_2
                        have HC252_2 := Aside0.mk hl252_2
                        clear hi252_2 hl252_2
                        replace p252 := eq_true p252
                        replace q252 := eq_true q252
                        try go_wp2_with (first | ((with_reducible refine gate_dst (N := 9) rfl ?_); refine box_event ?hg (N := 9) ?hd (cs := #[.int .i64 0, .string (⟨#[]⟩ : ByteArray), .slice none 0 0]) (t := 84) ?hr ?_; (case hd => rfl); (case hg => rfl); (case hr => first | (go_simp; done) | (go_simp; rfl)); intro gb253 hg w66 hbox hb; have n0_ := Aside0.mk (Kd.V_below (Kd.V_elderB (by (with_reducible repeat (first | apply Kd.V_alloc | apply Kd.V_drewN | apply Kd.V_drew)); exact HO_27.out) gb253 (Nat.le_of_eq hg.symm)) hb); have n1_ := Aside0.mk (Kd.V_below (Kd.V_elderB (by (with_reducible repeat (first | apply Kd.V_alloc | apply Kd.V_drewN | apply Kd.V_drew)); exact HO_245002.out) gb253 (Nat.le_of_eq hg.symm)) hb); have n2_ := Aside0.mk (Kd.N_below (Kd.N_elderB (by (with_reducible repeat (first | apply Kd.N_alloc | apply Kd.N_drewN | apply Kd.N_drew)); exact HO_252002.out) gb253 (Nat.le_of_eq hg.symm)) hb); have n3_ := Aside0.mk (Kd.V_below (Kd.V_elderB (by (with_reducible repeat (first | apply Kd.V_alloc | apply Kd.V_drewN | apply Kd.V_drew)); exact HL252_2.out) gb253 (Nat.le_of_eq hg.symm)) hb); have n4_ := Aside0.mk (blk_below (g := gb244) (o := .cells #[.int .i64 a0_0, .string a0_1, .slice (some ad252) l0_2.length c0_2] 84 (0, 0)) (by (with_reducible repeat (first | refine blk_drewN ?_ _ | refine blk_drew ?_ | refine blk_alloc ?_ _)); exact BK244.out) hb); have n5_ := Aside0.mk (blk_below (g := gb245) (o := .cells #[.int .i64 0, .string (⟨#[]⟩ : ByteArray), .slice none 0 0] 84 (0, 0)) (by (with_reducible repeat (first | refine blk_drewN ?_ _ | refine blk_drew ?_ | refine blk_alloc ?_ _)); exact BK245.out) hb); have n6_ := Aside0.mk (blk_below (g := gb251) (o := .cells #[.int .i64 a0_0, .string a0_1, u252002] 84 (0, 0)) (by (with_reducible repeat (first | refine blk_drewN ?_ _ | refine blk_drew ?_ | refine blk_alloc ?_ _)); exact BK251.out) hb); have n7_ := Aside0.mk (Kd.C_below (by repeat (first | (with_reducible exact HR252_2.out) | (with_reducible refine Kd.C_alloc ?_ _) | (with_reducible refine Kd.C_drewN ?_ _) | (with_reducible refine Kd.C_drew ?_) | exact HR252_2.out)) hb); have n8_ := Aside0.mk (below_step (by repeat (first | (with_reducible first | exact HB.out | apply below_alloc | apply pw_below_drewN | apply below_drew1 | refine below_set ?_ GE244.out | refine below_set ?_ GE245.out | refine below_set ?_ GE251.out) | exact HB.out)) hb); have n9_ := Aside0.mk (hbox); have n10_ := Aside0.mk ((by rw [hg]; exact (below_size (by repeat (first | (with_reducible first | exact HB.out | apply below_alloc | apply pw_below_drewN | apply below_drew1 | refine below_set ?_ GE244.out | refine below_set ?_ GE245.out | refine below_set ?_ GE251.out) | exact HB.out))) : w.heap.size ≤ gb253)); have n11_ := Aside0.mk ((by rw [hg]; exact (below_size (by repeat (first | (with_reducible first | exact HB.out | apply below_alloc | apply pw_below_drewN | apply below_drew1 | refine below_set ?_ GE244.out | refine below_set ?_ GE245.out | refine below_set ?_ GE251.out) | exact HB.out))) : w.heap.size ≤ gb253)); have n12_ := Aside0.mk ((by rw [hg]; exact Nat.ne_of_lt (blk_lt (g := gb244) (o := .cells #[.int .i64 a0_0, .string a0_1, .slice (some ad252) l0_2.length c0_2] 84 (0, 0)) (by (with_reducible repeat (first | refine blk_drewN ?_ _ | refine blk_drew ?_ | refine blk_alloc ?_ _)); exact BK244.out)) : gb244 ≠ gb253)); have n13_ := Aside0.mk ((by rw [hg]; exact Nat.ne_of_gt (blk_lt (g := gb244) (o := .cells #[.int .i64 a0_0, .string a0_1, .slice (some ad252) l0_2.length c0_2] 84 (0, 0)) (by (with_reducible repeat (first | refine blk_drewN ?_ _ | refine blk_drew ?_ | refine blk_alloc ?_ _)); exact BK244.out)) : gb253 ≠ gb244)); have n14_ := Aside0.mk ((by rw [hg]; exact Nat.ne_of_lt (blk_lt (g := gb245) (o := .cells #[.int .i64 0, .string (⟨#[]⟩ : ByteArray), .slice none 0 0] 84 (0, 0)) (by (with_reducible repeat (first | refine blk_drewN ?_ _ | refine blk_drew ?_ | refine blk_alloc ?_ _)); exact BK245.out)) : gb245 ≠ gb253)); have n15_ := Aside0.mk ((by rw [hg]; exact Nat.ne_of_gt (blk_lt (g := gb245) (o := .cells #[.int .i64 0, .string (⟨#[]⟩ : ByteArray), .slice none 0 0] 84 (0, 0)) (by (with_reducible repeat (first | refine blk_drewN ?_ _ | refine blk_drew ?_ | refine blk_alloc ?_ _)); exact BK245.out)) : gb253 ≠ gb245)); have n16_ := Aside0.mk ((by rw [hg]; exact Nat.ne_of_lt (blk_lt (g := gb251) (o := .cells #[.int .i64 a0_0, .string a0_1, u252002] 84 (0, 0)) (by (with_reducible repeat (first | refine blk_drewN ?_ _ | refine blk_drew ?_ | refine blk_alloc ?_ _)); exact BK251.out)) : gb251 ≠ gb253)); have n17_ := Aside0.mk ((by rw [hg]; exact Nat.ne_of_gt (blk_lt (g := gb251) (o := .cells #[.int .i64 a0_0, .string a0_1, u252002] 84 (0, 0)) (by (with_reducible repeat (first | refine blk_drewN ?_ _ | refine blk_drew ?_ | refine blk_alloc ?_ _)); exact BK251.out)) : gb253 ≠ gb251)); clear HO_27; clear HO_245002; clear HO_252002; clear HL252_2; clear BK244; clear BK245; clear BK251; clear HR252_2; clear HB; have HO_27 := n0_; have HO_245002 := n1_; have HO_252002 := n2_; have HL252_2 := n3_; have BK244 := n4_; have BK245 := n5_; have BK251 := n6_; have HR252_2 := n7_; have HB := n8_; have BK253 := n9_; have GW253 := n10_; have GE253 := n11_; have NB244_253 := n12_; have NB253_244 := n13_; have NB245_253 := n14_; have NB253_245 := n15_; have NB251_253 := n16_; have NB253_251 := n17_; clear n0_ n1_ n2_ n3_ n4_ n5_ n6_ n7_ n8_ n9_ n10_ n11_ n12_ n13_ n14_ n15_ n16_ n17_; clear hb hbox hg; have hnb67 := NB253_244.out; have hnc67 := NB244_253.out; have hnb68 := NB253_245.out; have hnc68 := NB245_253.out; have hnb69 := NB253_251.out; have hnc69 := NB251_253.out; have hcz70_0 : w66.cell? ⟨gb253, 0, none⟩ = some (.int .i64 0) := (blk_cell BK253.out 0).trans rfl; have hcz70_1 : w66.cell? ⟨gb253, 1, none⟩ = some (.string (⟨#[]⟩ : ByteArray)) := (blk_cell BK253.out 1).trans rfl; have hcz70_2 : w66.cell? ⟨gb253, 2, none⟩ = some (.slice none 0 0) := (blk_cell BK253.out 2).trans rfl; have hfz70_0 := blk_frozen BK253.out 0; have hfz70_1 := blk_frozen BK253.out 1; have hfz70_2 := blk_frozen BK253.out 2; have hnb71 := NB244_245.out; have hnc71 := NB245_244.out; have hnb72 := NB244_251.out; have hnc72 := NB251_244.out; have hcz73_0 : w66.cell? ⟨gb244, 0, none⟩ = some (.int .i64 a0_0) := (blk_cell BK244.out 0).trans rfl; have hcz73_1 : w66.cell? ⟨gb244, 1, none⟩ = some (.string a0_1) := (blk_cell BK244.out 1).trans rfl; have hcz73_2 : w66.cell? ⟨gb244, 2, none⟩ = some (.slice (some ad252) l0_2.length c0_2) := (blk_cell BK244.out 2).trans rfl; have hfz73_0 := blk_frozen BK244.out 0; have hfz73_1 := blk_frozen BK244.out 1; have hfz73_2 := blk_frozen BK244.out 2))
                        have n0_ : Aside0 (Kd.V k84 84 (((w66.setCell ⟨gb253, 0, none⟩ (.int .i64 ((rd_T84 l0_2 x29_2).f0))).setCell ⟨gb253, 1, none⟩ (.string ((rd_T84 l0_2 x29_2).f1))).setCell ⟨gb253, 2, none⟩ (.slice A252_2 ((rd_T84 l0_2 x29_2).f2).length c252_2)) w.heap.size (fun k_ => (P0_2_ k_ ∨ w.heap.size ≤ k_) ∧ some k_ ≠ (u252002 : Value).ownBlock ∧ k_ ≠ gb244 ∧ k_ ≠ gb245 ∧ k_ ≠ gb251 ∧ k_ ≠ gb253) (.slice (some ad252) l0_2.length c0_2) l0_2) := ⟨by (with_reducible repeat (first | apply Kd.V_alloc | apply Kd.V_drewN | apply Kd.V_drew)); exact Kd.V_mono (Kd.V_far (p := ⟨gb253, 2, none⟩) (Kd.V_far (p := ⟨gb253, 1, none⟩) (Kd.V_far (p := ⟨gb253, 0, none⟩) (Kd.V_mono HO_27.out (fun k_ hk => (⟨hk, hk.2⟩ : _ ∧ k_ ≠ gb253))) (fun _ hk => hk.2) (.int .i64 ((rd_T84 l0_2 x29_2).f0))) (fun _ hk => hk.2) (.string ((rd_T84 l0_2 x29_2).f1))) (fun _ hk => hk.2) (.slice A252_2 ((rd_T84 l0_2 x29_2).f2).length c252_2)) (fun _ hk => ⟨hk.1.1.1, ⟨hk.1.1.2.1, ⟨hk.1.1.2.2.1, ⟨hk.1.1.2.2.2.1, ⟨hk.1.1.2.2.2.2, hk.1.2⟩⟩⟩⟩⟩)⟩
                        have n1_ : Aside0 (Kd.V k84 84 (((w66.setCell ⟨gb253, 0, none⟩ (.int .i64 ((rd_T84 l0_2 x29_2).f0))).setCell ⟨gb253, 1, none⟩ (.string ((rd_T84 l0_2 x29_2).f1))).setCell ⟨gb253, 2, none⟩ (.slice A252_2 ((rd_T84 l0_2 x29_2).f2).length c252_2)) w.heap.size (fun k_ => (P0_2_ k_ ∨ w.heap.size ≤ k_) ∧ some k_ ≠ (u252002 : Value).ownBlock ∧ k_ ≠ gb244 ∧ k_ ≠ gb245 ∧ k_ ≠ gb251 ∧ k_ ≠ gb253) (.slice (some ad252) l0_2.length c0_2) l0_2) := ⟨by (with_reducible repeat (first | apply Kd.V_alloc | apply Kd.V_drewN | apply Kd.V_drew)); exact Kd.V_mono (Kd.V_far (p := ⟨gb253, 2, none⟩) (Kd.V_far (p := ⟨gb253, 1, none⟩) (Kd.V_far (p := ⟨gb253, 0, none⟩) (Kd.V_mono HO_245002.out (fun k_ hk => (⟨hk, hk.2⟩ : _ ∧ k_ ≠ gb253))) (fun _ hk => hk.2) (.int .i64 ((rd_T84 l0_2 x29_2).f0))) (fun _ hk => hk.2) (.string ((rd_T84 l0_2 x29_2).f1))) (fun _ hk => hk.2) (.slice A252_2 ((rd_T84 l0_2 x29_2).f2).length c252_2)) (fun _ hk => ⟨hk.1.1.1, ⟨hk.1.1.2.1, ⟨hk.1.1.2.2.1, ⟨hk.1.1.2.2.2.1, ⟨hk.1.1.2.2.2.2, hk.1.2⟩⟩⟩⟩⟩)⟩
                        have n2_ : Aside0 (Kd.N k84 84 (((w66.setCell ⟨gb253, 0, none⟩ (.int .i64 ((rd_T84 l0_2 x29_2).f0))).setCell ⟨gb253, 1, none⟩ (.string ((rd_T84 l0_2 x29_2).f1))).setCell ⟨gb253, 2, none⟩ (.slice A252_2 ((rd_T84 l0_2 x29_2).f2).length c252_2)) w.heap.size (fun k_ => (P0_2_ k_ ∨ w.heap.size ≤ k_) ∧ k_ ≠ gb244 ∧ k_ ≠ gb245 ∧ k_ ≠ gb251 ∧ k_ ≠ gb253) u252002 x252002_2) := ⟨by (with_reducible repeat (first | apply Kd.N_alloc | apply Kd.N_drewN | apply Kd.N_drew)); exact Kd.N_mono (Kd.N_far (p := ⟨gb253, 2, none⟩) (Kd.N_far (p := ⟨gb253, 1, none⟩) (Kd.N_far (p := ⟨gb253, 0, none⟩) (Kd.N_mono HO_252002.out (fun k_ hk => (⟨hk, hk.2⟩ : _ ∧ k_ ≠ gb253))) (fun _ hk => hk.2) (.int .i64 ((rd_T84 l0_2 x29_2).f0))) (fun _ hk => hk.2) (.string ((rd_T84 l0_2 x29_2).f1))) (fun _ hk => hk.2) (.slice A252_2 ((rd_T84 l0_2 x29_2).f2).length c252_2)) (fun _ hk => ⟨hk.1.1.1, ⟨hk.1.1.2.1, ⟨hk.1.1.2.2.1, ⟨hk.1.1.2.2.2, hk.1.2⟩⟩⟩⟩)⟩
                        have n3_ : Aside0 (Kd.V k84 84 (((w66.setCell ⟨gb253, 0, none⟩ (.int .i64 ((rd_T84 l0_2 x29_2).f0))).setCell ⟨gb253, 1, none⟩ (.string ((rd_T84 l0_2 x29_2).f1))).setCell ⟨gb253, 2, none⟩ (.slice A252_2 ((rd_T84 l0_2 x29_2).f2).length c252_2)) w.heap.size (fun k_ => (P0_2_ k_ ∨ w.heap.size ≤ k_) ∧ some k_ ≠ (u252002 : Value).ownBlock ∧ k_ ≠ gb244 ∧ k_ ≠ gb245 ∧ k_ ≠ gb251 ∧ k_ ≠ gb253) (.slice A252_2 ((rd_T84 l0_2 x29_2).f2).length c252_2) ((rd_T84 l0_2 x29_2).f2)) := ⟨by (with_reducible repeat (first | apply Kd.V_alloc | apply Kd.V_drewN | apply Kd.V_drew)); exact Kd.V_mono (Kd.V_far (p := ⟨gb253, 2, none⟩) (Kd.V_far (p := ⟨gb253, 1, none⟩) (Kd.V_far (p := ⟨gb253, 0, none⟩) (Kd.V_mono HL252_2.out (fun k_ hk => (⟨hk, hk.2⟩ : _ ∧ k_ ≠ gb253))) (fun _ hk => hk.2) (.int .i64 ((rd_T84 l0_2 x29_2).f0))) (fun _ hk => hk.2) (.string ((rd_T84 l0_2 x29_2).f1))) (fun _ hk => hk.2) (.slice A252_2 ((rd_T84 l0_2 x29_2).f2).length c252_2)) (fun _ hk => ⟨hk.1.1.1, ⟨hk.1.1.2.1, ⟨hk.1.1.2.2.1, ⟨hk.1.1.2.2.2.1, ⟨hk.1.1.2.2.2.2, hk.1.2⟩⟩⟩⟩⟩)⟩
                        have n4_ : Aside0 ((((w66.setCell ⟨gb253, 0, none⟩ (.int .i64 ((rd_T84 l0_2 x29_2).f0))).setCell ⟨gb253, 1, none⟩ (.string ((rd_T84 l0_2 x29_2).f1))).setCell ⟨gb253, 2, none⟩ (.slice A252_2 ((rd_T84 l0_2 x29_2).f2).length c252_2)).heap[gb244]? = some (.cells #[.int .i64 a0_0, .string a0_1, .slice (some ad252) l0_2.length c0_2] 84 (0, 0))) := ⟨by (with_reducible repeat (first | refine blk_drewN ?_ _ | refine blk_drew ?_ | refine blk_alloc ?_ _)); refine blk_far ?_ NB244_253.out _; (with_reducible repeat (first | refine blk_drewN ?_ _ | refine blk_drew ?_ | refine blk_alloc ?_ _)); refine blk_far ?_ NB244_253.out _; (with_reducible repeat (first | refine blk_drewN ?_ _ | refine blk_drew ?_ | refine blk_alloc ?_ _)); refine blk_far ?_ NB244_253.out _; (with_reducible repeat (first | refine blk_drewN ?_ _ | refine blk_drew ?_ | refine blk_alloc ?_ _)); exact BK244.out⟩
                        have n5_ : Aside0 ((((w66.setCell ⟨gb253, 0, none⟩ (.int .i64 ((rd_T84 l0_2 x29_2).f0))).setCell ⟨gb253, 1, none⟩ (.string ((rd_T84 l0_2 x29_2).f1))).setCell ⟨gb253, 2, none⟩ (.slice A252_2 ((rd_T84 l0_2 x29_2).f2).length c252_2)).heap[gb245]? = some (.cells #[.int .i64 0, .string (⟨#[]⟩ : ByteArray), .slice none 0 0] 84 (0, 0))) := ⟨by (with_reducible repeat (first | refine blk_drewN ?_ _ | refine blk_drew ?_ | refine blk_alloc ?_ _)); refine blk_far ?_ NB245_253.out _; (with_reducible repeat (first | refine blk_drewN ?_ _ | refine blk_drew ?_ | refine blk_alloc ?_ _)); refine blk_far ?_ NB245_253.out _; (with_reducible repeat (first | refine blk_drewN ?_ _ | refine blk_drew ?_ | refine blk_alloc ?_ _)); refine blk_far ?_ NB245_253.out _; (with_reducible repeat (first | refine blk_drewN ?_ _ | refine blk_drew ?_ | refine blk_alloc ?_ _)); exact BK245.out⟩
                        have n6_ : Aside0 ((((w66.setCell ⟨gb253, 0, none⟩ (.int .i64 ((rd_T84 l0_2 x29_2).f0))).setCell ⟨gb253, 1, none⟩ (.string ((rd_T84 l0_2 x29_2).f1))).setCell ⟨gb253, 2, none⟩ (.slice A252_2 ((rd_T84 l0_2 x29_2).f2).length c252_2)).heap[gb251]? = some (.cells #[.int .i64 a0_0, .string a0_1, u252002] 84 (0, 0))) := ⟨by (with_reducible repeat (first | refine blk_drewN ?_ _ | refine blk_drew ?_ | refine blk_alloc ?_ _)); refine blk_far ?_ NB251_253.out _; (with_reducible repeat (first | refine blk_drewN ?_ _ | refine blk_drew ?_ | refine blk_alloc ?_ _)); refine blk_far ?_ NB251_253.out _; (with_reducible repeat (first | refine blk_drewN ?_ _ | refine blk_drew ?_ | refine blk_alloc ?_ _)); refine blk_far ?_ NB251_253.out _; (with_reducible repeat (first | refine blk_drewN ?_ _ | refine blk_drew ?_ | refine blk_alloc ?_ _)); exact BK251.out⟩
                        have n7_ : Aside0 ((((w66.setCell ⟨gb253, 0, none⟩ (.int .i64 ((rd_T84 l0_2 x29_2).f0))).setCell ⟨gb253, 1, none⟩ (.string ((rd_T84 l0_2 x29_2).f1))).setCell ⟨gb253, 2, none⟩ (.slice A252_2 ((rd_T84 l0_2 x29_2).f2).length c252_2)).heap[gb253]? = some (.cells #[.int .i64 ((rd_T84 l0_2 x29_2).f0), .string ((rd_T84 l0_2 x29_2).f1), .slice A252_2 ((rd_T84 l0_2 x29_2).f2).length c252_2] 84 (0, 0))) := ⟨by (with_reducible repeat (first | refine blk_drewN ?_ _ | refine blk_drew ?_ | refine blk_alloc ?_ _)); refine blk_put (cs := #[.int .i64 ((rd_T84 l0_2 x29_2).f0), .string ((rd_T84 l0_2 x29_2).f1), .slice none 0 0]) ?_ 2 _ rfl; (with_reducible repeat (first | refine blk_drewN ?_ _ | refine blk_drew ?_ | refine blk_alloc ?_ _)); refine blk_put (cs := #[.int .i64 ((rd_T84 l0_2 x29_2).f0), .string (⟨#[]⟩ : ByteArray), .slice none 0 0]) ?_ 1 _ rfl; (with_reducible repeat (first | refine blk_drewN ?_ _ | refine blk_drew ?_ | refine blk_alloc ?_ _)); refine blk_put (cs := #[.int .i64 0, .string (⟨#[]⟩ : ByteArray), .slice none 0 0]) ?_ 0 _ rfl; (with_reducible repeat (first | refine blk_drewN ?_ _ | refine blk_drew ?_ | refine blk_alloc ?_ _)); exact BK253.out⟩
                        have n8_ : Aside0 (Below w.heap.size w (((w66.setCell ⟨gb253, 0, none⟩ (.int .i64 ((rd_T84 l0_2 x29_2).f0))).setCell ⟨gb253, 1, none⟩ (.string ((rd_T84 l0_2 x29_2).f1))).setCell ⟨gb253, 2, none⟩ (.slice A252_2 ((rd_T84 l0_2 x29_2).f2).length c252_2))) := ⟨by repeat (first | (with_reducible first | exact HB.out | apply below_alloc | apply pw_below_drewN | apply below_drew1 | refine below_set ?_ GE244.out | refine below_set ?_ GE245.out | refine below_set ?_ GE251.out | refine below_set ?_ GE253.out) | exact HB.out)⟩
                        (try clear HO_27)
                        (try clear HO_245002)
                        (try clear HO_252002)
                        (try clear HL252_2)
                        (try clear BK244)
                        (try clear BK245)
                        (try clear BK251)
                        (try clear BK253)
                        (try clear HB)
                        generalize (((w66.setCell ⟨gb253, 0, none⟩ (.int .i64 ((rd_T84 l0_2 x29_2).f0))).setCell ⟨gb253, 1, none⟩ (.string ((rd_T84 l0_2 x29_2).f1))).setCell ⟨gb253, 2, none⟩ (.slice A252_2 ((rd_T84 l0_2 x29_2).f2).length c252_2)) = w74 at n0_ n1_ n2_ n3_ n4_ n5_ n6_ n7_ n8_ ⊢
                        have HO_27 := n0_
                        have HO_245002 := n1_
                        have HO_252002 := n2_
                        have HL252_2 := n3_
                        have BK244 := n4_
                        have BK245 := n5_
                        have BK251 := n6_
                        have BK253 := n7_
                        have HB := n8_
                        clear n0_ n1_ n2_ n3_ n4_ n5_ n6_ n7_ n8_
                        have n0_ := Aside0.mk (Kd.V_drew HO_27.out)
                        have n1_ := Aside0.mk (Kd.V_drew HO_245002.out)
                        have n2_ := Aside0.mk (Kd.N_drew HO_252002.out)
                        have n3_ := Aside0.mk (Kd.V_drew HL252_2.out)
                        have n4_ := Aside0.mk (blk_drew BK244.out)
                        have n5_ := Aside0.mk (blk_drew BK245.out)
                        have n6_ := Aside0.mk (blk_drew BK251.out)
                        have n7_ := Aside0.mk (blk_drew BK253.out)
                        have n8_ := Aside0.mk (below_drew1 HB.out)
                        clear HO_27
                        clear HO_245002
                        clear HO_252002
                        clear HL252_2
                        clear BK244
                        clear BK245
                        clear BK251
                        clear BK253
                        clear HB
                        have HO_27 := n0_
                        have HO_245002 := n1_
                        have HO_252002 := n2_
                        have HL252_2 := n3_
                        have BK244 := n4_
                        have BK245 := n5_
                        have BK251 := n6_
                        have BK253 := n7_
                        have HB := n8_
                        clear n0_ n1_ n2_ n3_ n4_ n5_ n6_ n7_ n8_
                        refine start_ (n := 10) (S := fun w' => w'.cell? ⟨gb251, 0, none⟩ = some (.int .i64 a0_0) ∧ w'.cell? ⟨gb251, 1, none⟩ = some (.string a0_1) ∧ w'.cell? ⟨gb251, 2, none⟩ = some (u252002) ∧ w'.cell? ⟨gb253, 0, none⟩ = some (.int .i64 ((rd_T84 l0_2 x29_2).f0)) ∧ w'.cell? ⟨gb253, 1, none⟩ = some (.string ((rd_T84 l0_2 x29_2).f1)) ∧ w'.cell? ⟨gb253, 2, none⟩ = some (.slice A252_2 ((rd_T84 l0_2 x29_2).f2).length c252_2)) (ds := [9]) #[false, false, false, false, false, false, false, false, false, false] (by kernel_rfl) rfl rfl ⟨(blk_cell BK251.out 0).trans rfl, (blk_cell BK251.out 1).trans rfl, (blk_cell BK251.out 2).trans rfl, (blk_cell BK253.out 0).trans rfl, (blk_cell BK253.out 1).trans rfl, (blk_cell BK253.out 2).trans rfl⟩ (fun hHeld => ?_); refine with_tabW saplinglaw13_put.tab9 saplinglaw13_put.bits9 (fun HT_ HW_ => ?_)
                        generalize w74.drew = w75 at HO_27 HO_245002 HO_252002 HL252_2 BK244 BK245 BK251 BK253 HB hHeld ⊢
                        refine pure_ (i := 0) (N := some 53) (v := ?_) (a' := ?_) #[true, false, false, false, false, false, false, false, false, false] rfl rfl (any_of HT_.out (by kernel_rfl)) (fun _ _ _ h => h) (Or.inl ⟨by rfl, ?_⟩) ?_ ?_
                        rotate_left
                        · intro w'
                          go_simp
                          with_reducible rfl
                        rotate_left
                        · simp only [Act.put, List.setIfInBounds_toArray, List.set_cons_zero, List.set_cons_succ, i64_w, i32_w]
                          rfl
                        refine pure_ (i := 3) (N := some 56) (v := ?_) (a' := ?_) #[true, false, false, true, false, false, false, false, false, false] rfl rfl (any_of HT_.out (by kernel_rfl)) (fun _ _ _ h => h) (Or.inl ⟨by rfl, ?_⟩) ?_ ?_
                        rotate_left
                        · intro w'
                          go_simp
                          with_reducible rfl
                        rotate_left
                        · simp only [Act.put, List.setIfInBounds_toArray, List.set_cons_zero, List.set_cons_succ, i64_w, i32_w]
                          rfl
                        refine pure_ (i := 4) (N := some 57) (v := ?_) (a' := ?_) #[true, false, false, true, true, false, false, false, false, false] rfl rfl (any_of HT_.out (by kernel_rfl)) (fun _ _ _ h => h) (Or.inl ⟨by rfl, ?_⟩) ?_ ?_
                        rotate_left
                        · intro w'
                          go_simp
                          with_reducible rfl
                        rotate_left
                        · simp only [Act.put, List.setIfInBounds_toArray, List.set_cons_zero, List.set_cons_succ, i64_w, i32_w]
                          rfl
                        refine take_ (i := 1) (N := some 54) (v := ?_) (a' := ?_) #[true, true, false, true, true, false, false, false, false, false] rfl rfl (take_ofW HT_.out HW_.out (by kernel_rfl)) (fun _ _ _ h => h) (Or.inl ⟨by rfl, ?_⟩) hHeld ?_ ?_
                        rotate_left
                        · rintro w' ⟨s0, s1, s2, s3, s4, s5⟩
                          go_simp
                          with_reducible rfl
                        rotate_left
                        · simp only [Act.put, List.setIfInBounds_toArray, List.set_cons_zero, List.set_cons_succ, i64_w, i32_w]
                          rfl
                        refine take_ (i := 2) (N := some 55) (v := ?_) (a' := ?_) #[true, true, true, true, true, false, false, false, false, false] rfl rfl (take_ofW HT_.out HW_.out (by kernel_rfl)) (fun _ _ _ h => h) (Or.inl ⟨by rfl, ?_⟩) hHeld ?_ ?_
                        rotate_left
                        · rintro w' ⟨s0, s1, s2, s3, s4, s5⟩
                          go_simp
                          with_reducible rfl
                        rotate_left
                        · simp only [Act.put, List.setIfInBounds_toArray, List.set_cons_zero, List.set_cons_succ, i64_w, i32_w]
                          rfl
                        refine one_ (i := 5) (N := some 58) #[true, true, true, true, true, true, false, false, false, false] rfl rfl (one_of HT_.out (by kernel_rfl)) (by decide) (fun K hK => ?_)
                        refine goes_ Tryz.func50 (by kernel_rfl) rfl #[.agg #[.int .i64 ((rd_T84 l0_2 x29_2).f0), .string ((rd_T84 l0_2 x29_2).f1), .slice A252_2 ((rd_T84 l0_2 x29_2).f2).length c252_2], .string a1, .string a2] (by rfl) rfl rfl (by (try simp only [List.map_toArray, List.map_cons, List.map_nil]); first | done | rfl | (simp only [List.length_drop, List.length_take]; rfl)) ?_
                        with_reducible refine (ih k2 (by have := HJ3.out; have := HK2.out; omega) ((rd_T84 l0_2 x29_2).f0) ((rd_T84 l0_2 x29_2).f1) (fun k_ => ((P0_2_ k_ ∨ w.heap.size ≤ k_) ∧ (some k_ ≠ (u252002 : Value).ownBlock ∧ (k_ ≠ gb244 ∧ (k_ ≠ gb245 ∧ (k_ ≠ gb251 ∧ k_ ≠ gb253)))))) _ _ ((rd_T84 l0_2 x29_2).f2) a1 a2 t265 t266 t267 _ ?side1 A64.out).mono ?_
                        (case side1 => exact HL252_2.out)
                        rintro e w76 ⟨v268, rfl, ho0, hb⟩
                        refine ⟨_, rfl, ?_⟩
                        have n0_ := Aside0.mk (Kd.V_elder' (by (with_reducible repeat (first | apply Kd.V_alloc | apply Kd.V_drewN | apply Kd.V_drew)); exact HO_27.out) (Kd.N_base ho0) hb)
                        have n1_ := Aside0.mk (Kd.V_elder' (by (with_reducible repeat (first | apply Kd.V_alloc | apply Kd.V_drewN | apply Kd.V_drew)); exact HO_245002.out) (Kd.N_base ho0) hb)
                        have n2_ := Aside0.mk (Kd.N_elder' (by (with_reducible repeat (first | apply Kd.N_alloc | apply Kd.N_drewN | apply Kd.N_drew)); exact HO_252002.out) (Kd.N_base ho0) hb)
                        have n3_ := Aside0.mk (Kd.V_elder' (by (with_reducible repeat (first | apply Kd.V_alloc | apply Kd.V_drewN | apply Kd.V_drew)); exact HL252_2.out) (Kd.N_base ho0) hb)
                        have n4_ := Aside0.mk (Kd.N_lower (Kd.N_mono (ok' := fun k_ => (P0_2_ k_ ∨ w.heap.size ≤ k_) ∧ some k_ ≠ (u252002 : Value).ownBlock ∧ k_ ≠ gb244 ∧ k_ ≠ gb245 ∧ k_ ≠ gb251 ∧ k_ ≠ gb253) ho0 (fun k_ hk_ => ⟨Or.elim hk_ (fun hs_ => hs_.1) (fun hn_ => (.inr (Nat.le_trans (below_size (by repeat (first | (with_reducible first | exact HB.out | apply below_alloc | apply pw_below_drewN | apply below_drew1 | refine below_set ?_ GE244.out | refine below_set ?_ GE245.out | refine below_set ?_ GE251.out | refine below_set ?_ GE253.out) | exact HB.out))) hn_))), Or.elim hk_ (fun hs_ => hs_.2.1) (fun hn_ => (Kd.fresh' (Kd.N_lt (by (with_reducible repeat (first | apply Kd.N_alloc | apply Kd.N_drewN | apply Kd.N_drew)); exact HO_252002.out)) k_ hn_)), Or.elim hk_ (fun hs_ => hs_.2.2.1) (fun hn_ => (Kd.freshB (g := gb244) (o := .cells #[.int .i64 a0_0, .string a0_1, .slice (some ad252) l0_2.length c0_2] 84 (0, 0)) (by (with_reducible repeat (first | refine blk_drewN ?_ _ | refine blk_drew ?_ | refine blk_alloc ?_ _)); exact BK244.out) k_ hn_)), Or.elim hk_ (fun hs_ => hs_.2.2.2.1) (fun hn_ => (Kd.freshB (g := gb245) (o := .cells #[.int .i64 0, .string (⟨#[]⟩ : ByteArray), .slice none 0 0] 84 (0, 0)) (by (with_reducible repeat (first | refine blk_drewN ?_ _ | refine blk_drew ?_ | refine blk_alloc ?_ _)); exact BK245.out) k_ hn_)), Or.elim hk_ (fun hs_ => hs_.2.2.2.2.1) (fun hn_ => (Kd.freshB (g := gb251) (o := .cells #[.int .i64 a0_0, .string a0_1, u252002] 84 (0, 0)) (by (with_reducible repeat (first | refine blk_drewN ?_ _ | refine blk_drew ?_ | refine blk_alloc ?_ _)); exact BK251.out) k_ hn_)), Or.elim hk_ (fun hs_ => hs_.2.2.2.2.2) (fun hn_ => (Kd.freshB (g := gb253) (o := .cells #[.int .i64 ((rd_T84 l0_2 x29_2).f0), .string ((rd_T84 l0_2 x29_2).f1), .slice A252_2 ((rd_T84 l0_2 x29_2).f2).length c252_2] 84 (0, 0)) (by (with_reducible repeat (first | refine blk_drewN ?_ _ | refine blk_drew ?_ | refine blk_alloc ?_ _)); exact BK253.out) k_ hn_))⟩)) (below_size (by repeat (first | (with_reducible first | exact HB.out | apply below_alloc | apply pw_below_drewN | apply below_drew1 | refine below_set ?_ GE244.out | refine below_set ?_ GE245.out | refine below_set ?_ GE251.out | refine below_set ?_ GE253.out) | exact HB.out))))
                        have n5_ := Aside0.mk (blk_below (g := gb244) (o := .cells #[.int .i64 a0_0, .string a0_1, .slice (some ad252) l0_2.length c0_2] 84 (0, 0)) (by (with_reducible repeat (first | refine blk_drewN ?_ _ | refine blk_drew ?_ | refine blk_alloc ?_ _)); exact BK244.out) hb)
                        have n6_ := Aside0.mk (blk_below (g := gb245) (o := .cells #[.int .i64 0, .string (⟨#[]⟩ : ByteArray), .slice none 0 0] 84 (0, 0)) (by (with_reducible repeat (first | refine blk_drewN ?_ _ | refine blk_drew ?_ | refine blk_alloc ?_ _)); exact BK245.out) hb)
                        have n7_ := Aside0.mk (blk_below (g := gb251) (o := .cells #[.int .i64 a0_0, .string a0_1, u252002] 84 (0, 0)) (by (with_reducible repeat (first | refine blk_drewN ?_ _ | refine blk_drew ?_ | refine blk_alloc ?_ _)); exact BK251.out) hb)
                        have n8_ := Aside0.mk (blk_below (g := gb253) (o := .cells #[.int .i64 ((rd_T84 l0_2 x29_2).f0), .string ((rd_T84 l0_2 x29_2).f1), .slice A252_2 ((rd_T84 l0_2 x29_2).f2).length c252_2] 84 (0, 0)) (by (with_reducible repeat (first | refine blk_drewN ?_ _ | refine blk_drew ?_ | refine blk_alloc ?_ _)); exact BK253.out) hb)
                        have n9_ := Aside0.mk (below_step (by repeat (first | (with_reducible first | exact HB.out | apply below_alloc | apply pw_below_drewN | apply below_drew1 | refine below_set ?_ GE244.out | refine below_set ?_ GE245.out | refine below_set ?_ GE251.out | refine below_set ?_ GE253.out) | exact HB.out)) hb)
                        clear HO_27
                        clear HO_245002
                        clear HO_252002
                        clear HL252_2
                        clear BK244
                        clear BK245
                        clear BK251
                        clear BK253
                        clear HB
                        have HO_27 := n0_
                        have HO_245002 := n1_
                        have HO_252002 := n2_
                        have HL252_2 := n3_
                        have HO269 := n4_
                        have BK244 := n5_
                        have BK245 := n6_
                        have BK251 := n7_
                        have BK253 := n8_
                        have HB := n9_
                        clear n0_ n1_ n2_ n3_ n4_ n5_ n6_ n7_ n8_ n9_
                        (try clear hb)
                        (try clear hb2)
                        (try clear hk)
                        (try clear hi)
                        (try clear ho0)
                        obtain ⟨Ao78, co78, eo78⟩ := Kd.N_slice HO269.out
                        (first | subst eo78 | (injection eo78 with f1_ f2_ f3_; have f4_ := f1_.symm; have f5_ := f3_.symm; clear f1_ f2_ f3_; subst f4_; subst f5_))
                        refine hK.out _ _ ⟨(blk_cell BK251.out 0).trans rfl, (blk_cell BK251.out 1).trans rfl, (blk_cell BK251.out 2).trans rfl, (blk_cell BK253.out 0).trans rfl, (blk_cell BK253.out 1).trans rfl, (blk_cell BK253.out 2).trans rfl⟩ (fun hHeld => ?_)
                        clear hK K
                        refine norm_ (a' := ?_) ?_ ?_
                        rotate_left
                        · show Act.put _ (some 58) _ = _
                          simp only [Act.put, List.setIfInBounds_toArray, List.set_cons_zero, List.set_cons_succ, i64_w, i32_w]
                          rfl
                        refine one_ (i := 6) (N := some 59) #[true, true, true, true, true, true, true, false, false, false] rfl rfl (one_of HT_.out (by kernel_rfl)) (by decide) (fun K hK => ?_)
                        refine value_ (w1 := ?_) (v := ?_) (by rfl) rfl ?_ ?_
                        rotate_left 2
                        · go_simp
                          constructor
                          · rfl
                          · rfl
                        refine hK.out _ _ ⟨(blk_cell (blk_alloc BK251.out _) 0).trans rfl, (blk_cell (blk_alloc BK251.out _) 1).trans rfl, (blk_cell (blk_alloc BK251.out _) 2).trans rfl, (blk_cell (blk_alloc BK253.out _) 0).trans rfl, (blk_cell (blk_alloc BK253.out _) 1).trans rfl, (blk_cell (blk_alloc BK253.out _) 2).trans rfl⟩ (fun hHeld => ?_)
                        clear hK K
                        refine norm_ (a' := ?_) ?_ ?_
                        rotate_left
                        · show Act.put _ (some 59) _ = _
                          simp only [Act.put, List.setIfInBounds_toArray, List.set_cons_zero, List.set_cons_succ, i64_w, i32_w]
                          rfl
                        refine one_ (i := 7) (N := some 60) #[true, true, true, true, true, true, true, true, false, false] rfl rfl (one_of HT_.out (by kernel_rfl)) (by decide) (fun K hK => ?_)
                        refine Kd.N_append_step k84 (w0 := w) w.heap.size (by rfl) (.tmp 54) (.tmp 59) 82 84 (.agg #[(.int .i64 0), (.string ⟨#[]⟩), (.slice none 0 0)]) 48 rfl Tryz.underlying82 info84 rfl (by decide) (by omega) u252002 x252002_2 (⟨t265, t266, t267⟩ : S84) [.int .i64 t265, .string t266, .slice Ao78 t267.length co78] (fun k_ => (P0_2_ k_ ∨ w.heap.size ≤ k_) ∧ k_ ≠ gb244 ∧ k_ ≠ gb245 ∧ k_ ≠ gb251 ∧ k_ ≠ gb253) (fun k_ => ((fun k_ => (P0_2_ k_ ∨ w.heap.size ≤ k_) ∧ k_ ≠ gb244 ∧ k_ ≠ gb245 ∧ k_ ≠ gb251 ∧ k_ ≠ gb253)) k_ ∧ some k_ ≠ (u252002 : Value).ownBlock) rfl rfl ?aP (fun _ hk => hk) ?aF ?aO ?aB ?aS ?aL ?_
                        (case aP => exact (k84_mkF _ _ (⟨t265, t266, t267⟩ : S84) (Kd.N_reads' (Kd.N_mono (ok' := (fun k_ => ((fun k_ => (P0_2_ k_ ∨ w.heap.size ≤ k_) ∧ k_ ≠ gb244 ∧ k_ ≠ gb245 ∧ k_ ≠ gb251 ∧ k_ ≠ gb253)) k_ ∧ some k_ ≠ (u252002 : Value).ownBlock)) (HO269.out) (fun k_ hk => ⟨⟨hk.1, ⟨hk.2.2.1, ⟨hk.2.2.2.1, ⟨hk.2.2.2.2.1, hk.2.2.2.2.2⟩⟩⟩⟩, hk.2.1⟩))).2.1 (Kd.N_F (Kd.N_mono (ok' := (fun k_ => ((fun k_ => (P0_2_ k_ ∨ w.heap.size ≤ k_) ∧ k_ ≠ gb244 ∧ k_ ≠ gb245 ∧ k_ ≠ gb251 ∧ k_ ≠ gb253)) k_ ∧ some k_ ≠ (u252002 : Value).ownBlock)) (HO269.out) (fun k_ hk => ⟨⟨hk.1, ⟨hk.2.2.1, ⟨hk.2.2.2.1, ⟨hk.2.2.2.2.1, hk.2.2.2.2.2⟩⟩⟩⟩, hk.2.1⟩)))))
                        (case aB => exact (by repeat (first | (with_reducible first | exact HB.out | apply below_alloc | apply pw_below_drewN | apply below_drew1 | refine below_set ?_ GE244.out | refine below_set ?_ GE245.out | refine below_set ?_ GE251.out | refine below_set ?_ GE253.out) | exact HB.out)))
                        (case aF => exact (fun k_ hk => ⟨(.inr (Nat.le_trans (below_size (by repeat (first | (with_reducible first | exact HB.out | apply below_alloc | apply pw_below_drewN | apply below_drew1 | refine below_set ?_ GE244.out | refine below_set ?_ GE245.out | refine below_set ?_ GE251.out | refine below_set ?_ GE253.out) | exact HB.out))) hk)), Kd.freshB (g := gb244) (o := .cells #[.int .i64 a0_0, .string a0_1, .slice (some ad252) l0_2.length c0_2] 84 (0, 0)) (by (with_reducible repeat (first | refine blk_drewN ?_ _ | refine blk_drew ?_ | refine blk_alloc ?_ _)); exact BK244.out) k_ hk, Kd.freshB (g := gb245) (o := .cells #[.int .i64 0, .string (⟨#[]⟩ : ByteArray), .slice none 0 0] 84 (0, 0)) (by (with_reducible repeat (first | refine blk_drewN ?_ _ | refine blk_drew ?_ | refine blk_alloc ?_ _)); exact BK245.out) k_ hk, Kd.freshB (g := gb251) (o := .cells #[.int .i64 a0_0, .string a0_1, u252002] 84 (0, 0)) (by (with_reducible repeat (first | refine blk_drewN ?_ _ | refine blk_drew ?_ | refine blk_alloc ?_ _)); exact BK251.out) k_ hk, Kd.freshB (g := gb253) (o := .cells #[.int .i64 ((rd_T84 l0_2 x29_2).f0), .string ((rd_T84 l0_2 x29_2).f1), .slice A252_2 ((rd_T84 l0_2 x29_2).f2).length c252_2] 84 (0, 0)) (by (with_reducible repeat (first | refine blk_drewN ?_ _ | refine blk_drew ?_ | refine blk_alloc ?_ _)); exact BK253.out) k_ hk⟩))
                        (case aO => exact (by (with_reducible repeat (first | apply Kd.N_alloc | apply Kd.N_drewN | apply Kd.N_drew)); exact Kd.N_mono HO_252002.out (fun _ hk => ⟨hk.1.1, ⟨hk.1.2.1, ⟨hk.1.2.2.1, ⟨hk.1.2.2.2.1, hk.1.2.2.2.2⟩⟩⟩⟩)))
                        (case aS => exact (below_size (by repeat (first | (with_reducible first | exact HB.out | apply below_alloc | apply pw_below_drewN | apply below_drew1 | refine below_set ?_ GE244.out | refine below_set ?_ GE245.out | refine below_set ?_ GE251.out | refine below_set ?_ GE253.out) | exact HB.out))))
                        (case aL => have := LMc65.out; omega)
                        intro v271 w77 ho hb hg hat
                        rw [← Ny270.out] at ho
                        have n0_ := Aside0.mk (Kd.V_afterv (ok := (fun k_ => (P0_2_ k_ ∨ w.heap.size ≤ k_) ∧ some k_ ≠ (.slice Ao78 t267.length co78 : Value).ownBlock ∧ k_ ≠ gb244 ∧ k_ ≠ gb245 ∧ k_ ≠ gb251 ∧ k_ ≠ gb253)) (by (with_reducible repeat (first | apply Kd.V_alloc | apply Kd.V_drewN | apply Kd.V_drew)); exact Kd.V_mono HO_27.out (fun _ hk => ⟨⟨hk.1.1, ⟨hk.2, ⟨hk.1.2.2.1, ⟨hk.1.2.2.2.1, ⟨hk.1.2.2.2.2.1, hk.1.2.2.2.2.2⟩⟩⟩⟩⟩, hk.1.2.1⟩)) hg hat)
                        have n1_ := Aside0.mk (Kd.V_afterv (ok := (fun k_ => (P0_2_ k_ ∨ w.heap.size ≤ k_) ∧ some k_ ≠ (.slice Ao78 t267.length co78 : Value).ownBlock ∧ k_ ≠ gb244 ∧ k_ ≠ gb245 ∧ k_ ≠ gb251 ∧ k_ ≠ gb253)) (by (with_reducible repeat (first | apply Kd.V_alloc | apply Kd.V_drewN | apply Kd.V_drew)); exact Kd.V_mono HO_245002.out (fun _ hk => ⟨⟨hk.1.1, ⟨hk.2, ⟨hk.1.2.2.1, ⟨hk.1.2.2.2.1, ⟨hk.1.2.2.2.2.1, hk.1.2.2.2.2.2⟩⟩⟩⟩⟩, hk.1.2.1⟩)) hg hat)
                        have n2_ := Aside0.mk (blk_grown (g := gb244) (o := .cells #[.int .i64 a0_0, .string a0_1, .slice (some ad252) l0_2.length c0_2] 84 (0, 0)) (by (with_reducible repeat (first | refine blk_drewN ?_ _ | refine blk_drew ?_ | refine blk_alloc ?_ _)); exact BK244.out) hg (Kd.N_away HO_252002.out (fun _ hk => hk.1.2.1)))
                        have n3_ := Aside0.mk (blk_grown (g := gb245) (o := .cells #[.int .i64 0, .string (⟨#[]⟩ : ByteArray), .slice none 0 0] 84 (0, 0)) (by (with_reducible repeat (first | refine blk_drewN ?_ _ | refine blk_drew ?_ | refine blk_alloc ?_ _)); exact BK245.out) hg (Kd.N_away HO_252002.out (fun _ hk => hk.1.2.2.1)))
                        have n4_ := Aside0.mk (blk_grown (g := gb251) (o := .cells #[.int .i64 a0_0, .string a0_1, u252002] 84 (0, 0)) (by (with_reducible repeat (first | refine blk_drewN ?_ _ | refine blk_drew ?_ | refine blk_alloc ?_ _)); exact BK251.out) hg (Kd.N_away HO_252002.out (fun _ hk => hk.1.2.2.2.1)))
                        have n5_ := Aside0.mk (Kd.V_afterv (ok := (fun k_ => (P0_2_ k_ ∨ w.heap.size ≤ k_) ∧ some k_ ≠ (.slice Ao78 t267.length co78 : Value).ownBlock ∧ k_ ≠ gb244 ∧ k_ ≠ gb245 ∧ k_ ≠ gb251 ∧ k_ ≠ gb253)) (by (with_reducible repeat (first | apply Kd.V_alloc | apply Kd.V_drewN | apply Kd.V_drew)); exact Kd.V_mono HL252_2.out (fun _ hk => ⟨⟨hk.1.1, ⟨hk.2, ⟨hk.1.2.2.1, ⟨hk.1.2.2.2.1, ⟨hk.1.2.2.2.2.1, hk.1.2.2.2.2.2⟩⟩⟩⟩⟩, hk.1.2.1⟩)) hg hat)
                        have n6_ := Aside0.mk (blk_grown (g := gb253) (o := .cells #[.int .i64 ((rd_T84 l0_2 x29_2).f0), .string ((rd_T84 l0_2 x29_2).f1), .slice A252_2 ((rd_T84 l0_2 x29_2).f2).length c252_2] 84 (0, 0)) (by (with_reducible repeat (first | refine blk_drewN ?_ _ | refine blk_drew ?_ | refine blk_alloc ?_ _)); exact BK253.out) hg (Kd.N_away HO_252002.out (fun _ hk => hk.1.2.2.2.2)))
                        have n7_ := Aside0.mk (hb)
                        have n8_ := Aside0.mk (ho)
                        clear HO_27
                        clear HO_245002
                        clear BK244
                        clear BK245
                        clear BK251
                        clear HL252_2
                        clear BK253
                        clear HB
                        clear HO_252002
                        clear HO269
                        have HO_27 := n0_
                        have HO_245002 := n1_
                        have BK244 := n2_
                        have BK245 := n3_
                        have BK251 := n4_
                        have HL252_2 := n5_
                        have BK253 := n6_
                        have HB := n7_
                        have HO272 := n8_
                        clear n0_ n1_ n2_ n3_ n4_ n5_ n6_ n7_ n8_
                        clear ho hb hg hat
                        obtain ⟨Ao79, co79, eo79⟩ := Kd.N_slice HO272.out
                        (first | subst eo79 | (injection eo79 with f1_ f2_ f3_; have f4_ := f1_.symm; have f5_ := f3_.symm; clear f1_ f2_ f3_; subst f4_; subst f5_))
                        refine hK.out _ _ ⟨(blk_cell BK251.out 0).trans rfl, (blk_cell BK251.out 1).trans rfl, (blk_cell BK251.out 2).trans rfl, (blk_cell BK253.out 0).trans rfl, (blk_cell BK253.out 1).trans rfl, (blk_cell BK253.out 2).trans rfl⟩ (fun hHeld => ?_)
                        clear hK K
                        refine norm_ (a' := ?_) ?_ ?_
                        rotate_left
                        · show Act.put _ (some 60) _ = _
                          simp only [Act.put, List.setIfInBounds_toArray, List.set_cons_zero, List.set_cons_succ, i64_w, i32_w]
                          rfl
                        refine pure_ (i := 8) (N := some 61) (v := ?_) (a' := ?_) #[true, true, true, true, true, true, true, true, true, false] rfl rfl (any_of HT_.out (by kernel_rfl)) (fun _ _ _ h => h) (Or.inl ⟨by rfl, ?_⟩) ?_ ?_
                        rotate_left
                        · intro w'
                          go_simp
                          with_reducible rfl
                        rotate_left
                        · simp only [Act.put, List.setIfInBounds_toArray, List.set_cons_zero, List.set_cons_succ, i64_w, i32_w]
                          rfl
                        refine last_ (i := 9) (N := none) #[true, true, true, true, true, true, true, true, true, true] rfl rfl (one_of HT_.out (by kernel_rfl)) (by decide) (fun K hK => ?_)
                        have hs80 : w77.cell? ⟨gb251, 2, none⟩ = some (u252002) := (blk_cell BK251.out 2).trans rfl
                        have hfs80 := blk_frozen BK251.out 2
                        have hns80_0 := NB244_251.out
                        have hns80_1 := NB245_251.out
                        have hns80_3 := NB253_251.out
                        have hms80_0 := NB251_244.out
                        have hms80_1 := NB251_245.out
                        have hms80_3 := NB251_253.out
                        refine skip_ (w1 := ?_) (by rfl) rfl ?_ ?_
                        rotate_left
                        · go_simp
                          rfl
                        refine hK.out _ _ ?_
                        clear hK K
                        refine done_ (done_of HT_.out (by kernel_rfl)) ?_
                        try go_wp2
                        go_roundg k2
                        case measure => have := HJ3.out; have := HK2.out; omega
                        case rel => exact ⟨(wrap64 (x29_2 + 1)), (y270), (.slice Ao79 y270.length co79), (by first | rfl | (simp; done) | (simp [*]; done) | (have e_ : ∀ l : List UInt8, (l != []) = !l.isEmpty := (fun l => by cases l <;> rfl); simp [e_]; done)), H', ⟨by have := HJ3.out; have := HK2.out; omega⟩, ⟨by (with_reducible repeat (first | apply Kd.V_alloc | apply Kd.V_drewN | apply Kd.V_drew)); exact Kd.V_mono (Kd.V_far (p := ⟨gb251, 2, none⟩) (Kd.V_mono HO_27.out (fun k_ hk => (⟨hk, hk.1.2.2.2.2.1⟩ : _ ∧ k_ ≠ gb251))) (fun _ hk => hk.2) (.slice Ao79 y270.length co79)) (fun _ hk => ⟨hk.1.1.1, ⟨hk.1.2, ⟨hk.1.1.2.2.1, ⟨hk.1.1.2.2.2.1, hk.1.1.2.2.2.2.1⟩⟩⟩⟩)⟩, ⟨by (with_reducible repeat (first | apply Kd.V_alloc | apply Kd.V_drewN | apply Kd.V_drew)); exact Kd.V_mono (Kd.V_far (p := ⟨gb251, 2, none⟩) (Kd.V_mono HO_245002.out (fun k_ hk => (⟨hk, hk.1.2.2.2.2.1⟩ : _ ∧ k_ ≠ gb251))) (fun _ hk => hk.2) (.slice Ao79 y270.length co79)) (fun _ hk => ⟨hk.1.1.1, ⟨hk.1.2, ⟨hk.1.1.2.2.1, ⟨hk.1.1.2.2.2.1, hk.1.1.2.2.2.2.1⟩⟩⟩⟩)⟩, ⟨by (with_reducible repeat (first | apply Kd.N_alloc | apply Kd.N_drewN | apply Kd.N_drew)); exact Kd.N_mono (Kd.N_far (p := ⟨gb251, 2, none⟩) (Kd.N_mono HO272.out (fun k_ hk => (⟨hk, hk.2.2.2.1⟩ : _ ∧ k_ ≠ gb251))) (fun _ hk => hk.2) (.slice Ao79 y270.length co79)) (fun _ hk => ⟨hk.1.1, ⟨hk.1.2.1, ⟨hk.1.2.2.1, hk.1.2.2.2.1⟩⟩⟩)⟩, ⟨by (with_reducible repeat (first | refine blk_drewN ?_ _ | refine blk_drew ?_ | refine blk_alloc ?_ _)); refine blk_far ?_ NB244_251.out _; (with_reducible repeat (first | refine blk_drewN ?_ _ | refine blk_drew ?_ | refine blk_alloc ?_ _)); exact BK244.out⟩, ⟨by (with_reducible repeat (first | refine blk_drewN ?_ _ | refine blk_drew ?_ | refine blk_alloc ?_ _)); refine blk_far ?_ NB245_251.out _; (with_reducible repeat (first | refine blk_drewN ?_ _ | refine blk_drew ?_ | refine blk_alloc ?_ _)); exact BK245.out⟩, ⟨by (with_reducible repeat (first | refine blk_drewN ?_ _ | refine blk_drew ?_ | refine blk_alloc ?_ _)); refine blk_put (cs := #[.int .i64 a0_0, .string a0_1, u252002]) ?_ 2 _ rfl; (with_reducible repeat (first | refine blk_drewN ?_ _ | refine blk_drew ?_ | refine blk_alloc ?_ _)); exact BK251.out⟩, ⟨by repeat (first | (with_reducible first | exact HB.out | apply below_alloc | apply pw_below_drewN | apply below_drew1 | refine below_set ?_ GE244.out | refine below_set ?_ GE245.out | refine below_set ?_ GE251.out | refine below_set ?_ GE253.out) | exact HB.out)⟩⟩
                      · rw [if_neg c65] at H
                        exact absurd H (by simp)
                  · rw [if_neg c28] at H
                    have c28b0 : (a0_0 == 5) = false := beq_eq_false_iff_ne.mpr c28
                    have c28b1 : (a0_0 != 5) = true := bne_iff_ne.mpr c28
                    replace H := Option.bind_eq_some_iff.mp H
                    obtain ⟨⟨t273, t274, t275⟩, A810, H⟩ := H
                    replace H : (if x252002_2.length < 2932031007402 then (saplinglaw13_put.l0 k2 a1 a2 l0_2 (l0_2.length : Int) (wrap64 (x29_2 + 1)) a0_0 a0_1 l0_2 a0_0 a0_1 (x252002_2 ++ [(⟨t273, t274, t275⟩ : S84)])) else (none)) = some (r1, r2, r3) := H
                    have A81 := Aside0.mk A810
                    clear A810
                    by_cases c82 : x252002_2.length < 2932031007402
                    · rw [if_pos c82] at H
                      have LMc82 := Aside0.mk c82
                      clear c82
                      obtain ⟨y278, hy278⟩ : ∃ y_ : List (S84), y_ = (x252002_2 ++ [(⟨t273, t274, t275⟩ : S84)]) := ⟨_, rfl⟩
                      replace H : (saplinglaw13_put.l0 k2 a1 a2 l0_2 (l0_2.length : Int) (wrap64 (x29_2 + 1)) a0_0 a0_1 l0_2 a0_0 a0_1 y278) = some (r1, r2, r3) := by first | (rw [hy278]; with_reducible exact H) | (have H2_ := (Option.bind_some _ _).symm.trans H; rw [hy278]; with_reducible exact H2_) | (have H2_ := (Option.bind_some _ _).symm.trans H; with_reducible exact H2_) | with_reducible exact H | (rw [hy278]; exact H) | exact H
                      have Ny278 := Aside0.mk hy278
                      clear hy278
                      have H' := Aside0.mk H
                      clear H
                      have p252 : 0 ≤ (x29_2 : Int) := of_decide_eq_true (by first | (with_reducible assumption) | assumption)
                      have q252 : x29_2 < (l0_2.length : Int) := of_decide_eq_true (by first | (with_reducible assumption) | assumption)
                      obtain ⟨ad252, A252_2, c252_2, e252, hx252_0, hx252_1, hx252_2, hl252_2, hi252_2⟩ := at_T84 (Kd.V_reads' HO_27.out).2.2 x29_2 p252 q252
                      cases e252
                      obtain ⟨ce252, hce252, hMe252, hcc252⟩ := Kd.V_get HO_27.out z84 x29_2 p252 (by first | exact q252 | exact of_decide_eq_true (by first | (with_reducible assumption) | assumption) | (have e_ := (Kd.V_reads' HO_27.out).1; omega))
                      obtain ⟨ua252_2, uc252_2, rfl, ul252_2, ge252_2⟩ := k84_openF hMe252
                      have hv252_2 := hcc252 2 _ rfl
                      rw [add_field _ _ 2 (by omega)] at hv252_2
                      replace hv252_2 := Option.some.inj (hv252_2.symm.trans hx252_2)
                      injection hv252_2 with hva_ hvn_ hvc_
                      rw [hva_] at ge252_2
                      rw [hvc_] at ul252_2
                      have HL252_2 := Aside0.mk (show Kd.V k84 84 _ w.heap.size _ _ ((rd_T84 l0_2 x29_2).f2) from Kd.V_mk ul252_2 ge252_2)
                      clear hva_ hvn_ hvc_ ge252_2 ul252_2
                      clear hcc252 hce252
                      have HR252_2 := Aside0.mk hi252_2
                      have HC252_2 := Aside0.mk hl252_2
                      clear hi252_2 hl252_2
                      replace p252 := eq_true p252
                      replace q252 := eq_true q252
                      try go_wp2_with (first | ((with_reducible refine gate_dst (N := 9) rfl ?_); refine box_event ?hg (N := 9) ?hd (cs := #[.int .i64 0, .string (⟨#[]⟩ : ByteArray), .slice none 0 0]) (t := 84) ?hr ?_; (case hd => rfl); (case hg => rfl); (case hr => first | (go_simp; done) | (go_simp; rfl)); intro gb253 hg w83 hbox hb; have n0_ := Aside0.mk (Kd.V_below (Kd.V_elderB (by (with_reducible repeat (first | apply Kd.V_alloc | apply Kd.V_drewN | apply Kd.V_drew)); exact HO_27.out) gb253 (Nat.le_of_eq hg.symm)) hb); have n1_ := Aside0.mk (Kd.V_below (Kd.V_elderB (by (with_reducible repeat (first | apply Kd.V_alloc | apply Kd.V_drewN | apply Kd.V_drew)); exact HO_245002.out) gb253 (Nat.le_of_eq hg.symm)) hb); have n2_ := Aside0.mk (Kd.N_below (Kd.N_elderB (by (with_reducible repeat (first | apply Kd.N_alloc | apply Kd.N_drewN | apply Kd.N_drew)); exact HO_252002.out) gb253 (Nat.le_of_eq hg.symm)) hb); have n3_ := Aside0.mk (Kd.V_below (Kd.V_elderB (by (with_reducible repeat (first | apply Kd.V_alloc | apply Kd.V_drewN | apply Kd.V_drew)); exact HL252_2.out) gb253 (Nat.le_of_eq hg.symm)) hb); have n4_ := Aside0.mk (blk_below (g := gb244) (o := .cells #[.int .i64 a0_0, .string a0_1, .slice (some ad252) l0_2.length c0_2] 84 (0, 0)) (by (with_reducible repeat (first | refine blk_drewN ?_ _ | refine blk_drew ?_ | refine blk_alloc ?_ _)); exact BK244.out) hb); have n5_ := Aside0.mk (blk_below (g := gb245) (o := .cells #[.int .i64 0, .string (⟨#[]⟩ : ByteArray), .slice none 0 0] 84 (0, 0)) (by (with_reducible repeat (first | refine blk_drewN ?_ _ | refine blk_drew ?_ | refine blk_alloc ?_ _)); exact BK245.out) hb); have n6_ := Aside0.mk (blk_below (g := gb251) (o := .cells #[.int .i64 a0_0, .string a0_1, u252002] 84 (0, 0)) (by (with_reducible repeat (first | refine blk_drewN ?_ _ | refine blk_drew ?_ | refine blk_alloc ?_ _)); exact BK251.out) hb); have n7_ := Aside0.mk (Kd.C_below (by repeat (first | (with_reducible exact HR252_2.out) | (with_reducible refine Kd.C_alloc ?_ _) | (with_reducible refine Kd.C_drewN ?_ _) | (with_reducible refine Kd.C_drew ?_) | exact HR252_2.out)) hb); have n8_ := Aside0.mk (below_step (by repeat (first | (with_reducible first | exact HB.out | apply below_alloc | apply pw_below_drewN | apply below_drew1 | refine below_set ?_ GE244.out | refine below_set ?_ GE245.out | refine below_set ?_ GE251.out) | exact HB.out)) hb); have n9_ := Aside0.mk (hbox); have n10_ := Aside0.mk ((by rw [hg]; exact (below_size (by repeat (first | (with_reducible first | exact HB.out | apply below_alloc | apply pw_below_drewN | apply below_drew1 | refine below_set ?_ GE244.out | refine below_set ?_ GE245.out | refine below_set ?_ GE251.out) | exact HB.out))) : w.heap.size ≤ gb253)); have n11_ := Aside0.mk ((by rw [hg]; exact (below_size (by repeat (first | (with_reducible first | exact HB.out | apply below_alloc | apply pw_below_drewN | apply below_drew1 | refine below_set ?_ GE244.out | refine below_set ?_ GE245.out | refine below_set ?_ GE251.out) | exact HB.out))) : w.heap.size ≤ gb253)); have n12_ := Aside0.mk ((by rw [hg]; exact Nat.ne_of_lt (blk_lt (g := gb244) (o := .cells #[.int .i64 a0_0, .string a0_1, .slice (some ad252) l0_2.length c0_2] 84 (0, 0)) (by (with_reducible repeat (first | refine blk_drewN ?_ _ | refine blk_drew ?_ | refine blk_alloc ?_ _)); exact BK244.out)) : gb244 ≠ gb253)); have n13_ := Aside0.mk ((by rw [hg]; exact Nat.ne_of_gt (blk_lt (g := gb244) (o := .cells #[.int .i64 a0_0, .string a0_1, .slice (some ad252) l0_2.length c0_2] 84 (0, 0)) (by (with_reducible repeat (first | refine blk_drewN ?_ _ | refine blk_drew ?_ | refine blk_alloc ?_ _)); exact BK244.out)) : gb253 ≠ gb244)); have n14_ := Aside0.mk ((by rw [hg]; exact Nat.ne_of_lt (blk_lt (g := gb245) (o := .cells #[.int .i64 0, .string (⟨#[]⟩ : ByteArray), .slice none 0 0] 84 (0, 0)) (by (with_reducible repeat (first | refine blk_drewN ?_ _ | refine blk_drew ?_ | refine blk_alloc ?_ _)); exact BK245.out)) : gb245 ≠ gb253)); have n15_ := Aside0.mk ((by rw [hg]; exact Nat.ne_of_gt (blk_lt (g := gb245) (o := .cells #[.int .i64 0, .string (⟨#[]⟩ : ByteArray), .slice none 0 0] 84 (0, 0)) (by (with_reducible repeat (first | refine blk_drewN ?_ _ | refine blk_drew ?_ | refine blk_alloc ?_ _)); exact BK245.out)) : gb253 ≠ gb245)); have n16_ := Aside0.mk ((by rw [hg]; exact Nat.ne_of_lt (blk_lt (g := gb251) (o := .cells #[.int .i64 a0_0, .string a0_1, u252002] 84 (0, 0)) (by (with_reducible repeat (first | refine blk_drewN ?_ _ | refine blk_drew ?_ | refine blk_alloc ?_ _)); exact BK251.out)) : gb251 ≠ gb253)); have n17_ := Aside0.mk ((by rw [hg]; exact Nat.ne_of_gt (blk_lt (g := gb251) (o := .cells #[.int .i64 a0_0, .string a0_1, u252002] 84 (0, 0)) (by (with_reducible repeat (first | refine blk_drewN ?_ _ | refine blk_drew ?_ | refine blk_alloc ?_ _)); exact BK251.out)) : gb253 ≠ gb251)); clear HO_27; clear HO_245002; clear HO_252002; clear HL252_2; clear BK244; clear BK245; clear BK251; clear HR252_2; clear HB; have HO_27 := n0_; have HO_245002 := n1_; have HO_252002 := n2_; have HL252_2 := n3_; have BK244 := n4_; have BK245 := n5_; have BK251 := n6_; have HR252_2 := n7_; have HB := n8_; have BK253 := n9_; have GW253 := n10_; have GE253 := n11_; have NB244_253 := n12_; have NB253_244 := n13_; have NB245_253 := n14_; have NB253_245 := n15_; have NB251_253 := n16_; have NB253_251 := n17_; clear n0_ n1_ n2_ n3_ n4_ n5_ n6_ n7_ n8_ n9_ n10_ n11_ n12_ n13_ n14_ n15_ n16_ n17_; clear hb hbox hg; have hnb84 := NB253_244.out; have hnc84 := NB244_253.out; have hnb85 := NB253_245.out; have hnc85 := NB245_253.out; have hnb86 := NB253_251.out; have hnc86 := NB251_253.out; have hcz87_0 : w83.cell? ⟨gb253, 0, none⟩ = some (.int .i64 0) := (blk_cell BK253.out 0).trans rfl; have hcz87_1 : w83.cell? ⟨gb253, 1, none⟩ = some (.string (⟨#[]⟩ : ByteArray)) := (blk_cell BK253.out 1).trans rfl; have hcz87_2 : w83.cell? ⟨gb253, 2, none⟩ = some (.slice none 0 0) := (blk_cell BK253.out 2).trans rfl; have hfz87_0 := blk_frozen BK253.out 0; have hfz87_1 := blk_frozen BK253.out 1; have hfz87_2 := blk_frozen BK253.out 2; have hnb88 := NB244_245.out; have hnc88 := NB245_244.out; have hnb89 := NB244_251.out; have hnc89 := NB251_244.out; have hcz90_0 : w83.cell? ⟨gb244, 0, none⟩ = some (.int .i64 a0_0) := (blk_cell BK244.out 0).trans rfl; have hcz90_1 : w83.cell? ⟨gb244, 1, none⟩ = some (.string a0_1) := (blk_cell BK244.out 1).trans rfl; have hcz90_2 : w83.cell? ⟨gb244, 2, none⟩ = some (.slice (some ad252) l0_2.length c0_2) := (blk_cell BK244.out 2).trans rfl; have hfz90_0 := blk_frozen BK244.out 0; have hfz90_1 := blk_frozen BK244.out 1; have hfz90_2 := blk_frozen BK244.out 2))
                      have n0_ : Aside0 (Kd.V k84 84 (((w83.setCell ⟨gb253, 0, none⟩ (.int .i64 ((rd_T84 l0_2 x29_2).f0))).setCell ⟨gb253, 1, none⟩ (.string ((rd_T84 l0_2 x29_2).f1))).setCell ⟨gb253, 2, none⟩ (.slice A252_2 ((rd_T84 l0_2 x29_2).f2).length c252_2)) w.heap.size (fun k_ => (P0_2_ k_ ∨ w.heap.size ≤ k_) ∧ some k_ ≠ (u252002 : Value).ownBlock ∧ k_ ≠ gb244 ∧ k_ ≠ gb245 ∧ k_ ≠ gb251 ∧ k_ ≠ gb253) (.slice (some ad252) l0_2.length c0_2) l0_2) := ⟨by (with_reducible repeat (first | apply Kd.V_alloc | apply Kd.V_drewN | apply Kd.V_drew)); exact Kd.V_mono (Kd.V_far (p := ⟨gb253, 2, none⟩) (Kd.V_far (p := ⟨gb253, 1, none⟩) (Kd.V_far (p := ⟨gb253, 0, none⟩) (Kd.V_mono HO_27.out (fun k_ hk => (⟨hk, hk.2⟩ : _ ∧ k_ ≠ gb253))) (fun _ hk => hk.2) (.int .i64 ((rd_T84 l0_2 x29_2).f0))) (fun _ hk => hk.2) (.string ((rd_T84 l0_2 x29_2).f1))) (fun _ hk => hk.2) (.slice A252_2 ((rd_T84 l0_2 x29_2).f2).length c252_2)) (fun _ hk => ⟨hk.1.1.1, ⟨hk.1.1.2.1, ⟨hk.1.1.2.2.1, ⟨hk.1.1.2.2.2.1, ⟨hk.1.1.2.2.2.2, hk.1.2⟩⟩⟩⟩⟩)⟩
                      have n1_ : Aside0 (Kd.V k84 84 (((w83.setCell ⟨gb253, 0, none⟩ (.int .i64 ((rd_T84 l0_2 x29_2).f0))).setCell ⟨gb253, 1, none⟩ (.string ((rd_T84 l0_2 x29_2).f1))).setCell ⟨gb253, 2, none⟩ (.slice A252_2 ((rd_T84 l0_2 x29_2).f2).length c252_2)) w.heap.size (fun k_ => (P0_2_ k_ ∨ w.heap.size ≤ k_) ∧ some k_ ≠ (u252002 : Value).ownBlock ∧ k_ ≠ gb244 ∧ k_ ≠ gb245 ∧ k_ ≠ gb251 ∧ k_ ≠ gb253) (.slice (some ad252) l0_2.length c0_2) l0_2) := ⟨by (with_reducible repeat (first | apply Kd.V_alloc | apply Kd.V_drewN | apply Kd.V_drew)); exact Kd.V_mono (Kd.V_far (p := ⟨gb253, 2, none⟩) (Kd.V_far (p := ⟨gb253, 1, none⟩) (Kd.V_far (p := ⟨gb253, 0, none⟩) (Kd.V_mono HO_245002.out (fun k_ hk => (⟨hk, hk.2⟩ : _ ∧ k_ ≠ gb253))) (fun _ hk => hk.2) (.int .i64 ((rd_T84 l0_2 x29_2).f0))) (fun _ hk => hk.2) (.string ((rd_T84 l0_2 x29_2).f1))) (fun _ hk => hk.2) (.slice A252_2 ((rd_T84 l0_2 x29_2).f2).length c252_2)) (fun _ hk => ⟨hk.1.1.1, ⟨hk.1.1.2.1, ⟨hk.1.1.2.2.1, ⟨hk.1.1.2.2.2.1, ⟨hk.1.1.2.2.2.2, hk.1.2⟩⟩⟩⟩⟩)⟩
                      have n2_ : Aside0 (Kd.N k84 84 (((w83.setCell ⟨gb253, 0, none⟩ (.int .i64 ((rd_T84 l0_2 x29_2).f0))).setCell ⟨gb253, 1, none⟩ (.string ((rd_T84 l0_2 x29_2).f1))).setCell ⟨gb253, 2, none⟩ (.slice A252_2 ((rd_T84 l0_2 x29_2).f2).length c252_2)) w.heap.size (fun k_ => (P0_2_ k_ ∨ w.heap.size ≤ k_) ∧ k_ ≠ gb244 ∧ k_ ≠ gb245 ∧ k_ ≠ gb251 ∧ k_ ≠ gb253) u252002 x252002_2) := ⟨by (with_reducible repeat (first | apply Kd.N_alloc | apply Kd.N_drewN | apply Kd.N_drew)); exact Kd.N_mono (Kd.N_far (p := ⟨gb253, 2, none⟩) (Kd.N_far (p := ⟨gb253, 1, none⟩) (Kd.N_far (p := ⟨gb253, 0, none⟩) (Kd.N_mono HO_252002.out (fun k_ hk => (⟨hk, hk.2⟩ : _ ∧ k_ ≠ gb253))) (fun _ hk => hk.2) (.int .i64 ((rd_T84 l0_2 x29_2).f0))) (fun _ hk => hk.2) (.string ((rd_T84 l0_2 x29_2).f1))) (fun _ hk => hk.2) (.slice A252_2 ((rd_T84 l0_2 x29_2).f2).length c252_2)) (fun _ hk => ⟨hk.1.1.1, ⟨hk.1.1.2.1, ⟨hk.1.1.2.2.1, ⟨hk.1.1.2.2.2, hk.1.2⟩⟩⟩⟩)⟩
                      have n3_ : Aside0 (Kd.V k84 84 (((w83.setCell ⟨gb253, 0, none⟩ (.int .i64 ((rd_T84 l0_2 x29_2).f0))).setCell ⟨gb253, 1, none⟩ (.string ((rd_T84 l0_2 x29_2).f1))).setCell ⟨gb253, 2, none⟩ (.slice A252_2 ((rd_T84 l0_2 x29_2).f2).length c252_2)) w.heap.size (fun k_ => (P0_2_ k_ ∨ w.heap.size ≤ k_) ∧ some k_ ≠ (u252002 : Value).ownBlock ∧ k_ ≠ gb244 ∧ k_ ≠ gb245 ∧ k_ ≠ gb251 ∧ k_ ≠ gb253) (.slice A252_2 ((rd_T84 l0_2 x29_2).f2).length c252_2) ((rd_T84 l0_2 x29_2).f2)) := ⟨by (with_reducible repeat (first | apply Kd.V_alloc | apply Kd.V_drewN | apply Kd.V_drew)); exact Kd.V_mono (Kd.V_far (p := ⟨gb253, 2, none⟩) (Kd.V_far (p := ⟨gb253, 1, none⟩) (Kd.V_far (p := ⟨gb253, 0, none⟩) (Kd.V_mono HL252_2.out (fun k_ hk => (⟨hk, hk.2⟩ : _ ∧ k_ ≠ gb253))) (fun _ hk => hk.2) (.int .i64 ((rd_T84 l0_2 x29_2).f0))) (fun _ hk => hk.2) (.string ((rd_T84 l0_2 x29_2).f1))) (fun _ hk => hk.2) (.slice A252_2 ((rd_T84 l0_2 x29_2).f2).length c252_2)) (fun _ hk => ⟨hk.1.1.1, ⟨hk.1.1.2.1, ⟨hk.1.1.2.2.1, ⟨hk.1.1.2.2.2.1, ⟨hk.1.1.2.2.2.2, hk.1.2⟩⟩⟩⟩⟩)⟩
                      have n4_ : Aside0 ((((w83.setCell ⟨gb253, 0, none⟩ (.int .i64 ((rd_T84 l0_2 x29_2).f0))).setCell ⟨gb253, 1, none⟩ (.string ((rd_T84 l0_2 x29_2).f1))).setCell ⟨gb253, 2, none⟩ (.slice A252_2 ((rd_T84 l0_2 x29_2).f2).length c252_2)).heap[gb244]? = some (.cells #[.int .i64 a0_0, .string a0_1, .slice (some ad252) l0_2.length c0_2] 84 (0, 0))) := ⟨by (with_reducible repeat (first | refine blk_drewN ?_ _ | refine blk_drew ?_ | refine blk_alloc ?_ _)); refine blk_far ?_ NB244_253.out _; (with_reducible repeat (first | refine blk_drewN ?_ _ | refine blk_drew ?_ | refine blk_alloc ?_ _)); refine blk_far ?_ NB244_253.out _; (with_reducible repeat (first | refine blk_drewN ?_ _ | refine blk_drew ?_ | refine blk_alloc ?_ _)); refine blk_far ?_ NB244_253.out _; (with_reducible repeat (first | refine blk_drewN ?_ _ | refine blk_drew ?_ | refine blk_alloc ?_ _)); exact BK244.out⟩
                      have n5_ : Aside0 ((((w83.setCell ⟨gb253, 0, none⟩ (.int .i64 ((rd_T84 l0_2 x29_2).f0))).setCell ⟨gb253, 1, none⟩ (.string ((rd_T84 l0_2 x29_2).f1))).setCell ⟨gb253, 2, none⟩ (.slice A252_2 ((rd_T84 l0_2 x29_2).f2).length c252_2)).heap[gb245]? = some (.cells #[.int .i64 0, .string (⟨#[]⟩ : ByteArray), .slice none 0 0] 84 (0, 0))) := ⟨by (with_reducible repeat (first | refine blk_drewN ?_ _ | refine blk_drew ?_ | refine blk_alloc ?_ _)); refine blk_far ?_ NB245_253.out _; (with_reducible repeat (first | refine blk_drewN ?_ _ | refine blk_drew ?_ | refine blk_alloc ?_ _)); refine blk_far ?_ NB245_253.out _; (with_reducible repeat (first | refine blk_drewN ?_ _ | refine blk_drew ?_ | refine blk_alloc ?_ _)); refine blk_far ?_ NB245_253.out _; (with_reducible repeat (first | refine blk_drewN ?_ _ | refine blk_drew ?_ | refine blk_alloc ?_ _)); exact BK245.out⟩
                      have n6_ : Aside0 ((((w83.setCell ⟨gb253, 0, none⟩ (.int .i64 ((rd_T84 l0_2 x29_2).f0))).setCell ⟨gb253, 1, none⟩ (.string ((rd_T84 l0_2 x29_2).f1))).setCell ⟨gb253, 2, none⟩ (.slice A252_2 ((rd_T84 l0_2 x29_2).f2).length c252_2)).heap[gb251]? = some (.cells #[.int .i64 a0_0, .string a0_1, u252002] 84 (0, 0))) := ⟨by (with_reducible repeat (first | refine blk_drewN ?_ _ | refine blk_drew ?_ | refine blk_alloc ?_ _)); refine blk_far ?_ NB251_253.out _; (with_reducible repeat (first | refine blk_drewN ?_ _ | refine blk_drew ?_ | refine blk_alloc ?_ _)); refine blk_far ?_ NB251_253.out _; (with_reducible repeat (first | refine blk_drewN ?_ _ | refine blk_drew ?_ | refine blk_alloc ?_ _)); refine blk_far ?_ NB251_253.out _; (with_reducible repeat (first | refine blk_drewN ?_ _ | refine blk_drew ?_ | refine blk_alloc ?_ _)); exact BK251.out⟩
                      have n7_ : Aside0 ((((w83.setCell ⟨gb253, 0, none⟩ (.int .i64 ((rd_T84 l0_2 x29_2).f0))).setCell ⟨gb253, 1, none⟩ (.string ((rd_T84 l0_2 x29_2).f1))).setCell ⟨gb253, 2, none⟩ (.slice A252_2 ((rd_T84 l0_2 x29_2).f2).length c252_2)).heap[gb253]? = some (.cells #[.int .i64 ((rd_T84 l0_2 x29_2).f0), .string ((rd_T84 l0_2 x29_2).f1), .slice A252_2 ((rd_T84 l0_2 x29_2).f2).length c252_2] 84 (0, 0))) := ⟨by (with_reducible repeat (first | refine blk_drewN ?_ _ | refine blk_drew ?_ | refine blk_alloc ?_ _)); refine blk_put (cs := #[.int .i64 ((rd_T84 l0_2 x29_2).f0), .string ((rd_T84 l0_2 x29_2).f1), .slice none 0 0]) ?_ 2 _ rfl; (with_reducible repeat (first | refine blk_drewN ?_ _ | refine blk_drew ?_ | refine blk_alloc ?_ _)); refine blk_put (cs := #[.int .i64 ((rd_T84 l0_2 x29_2).f0), .string (⟨#[]⟩ : ByteArray), .slice none 0 0]) ?_ 1 _ rfl; (with_reducible repeat (first | refine blk_drewN ?_ _ | refine blk_drew ?_ | refine blk_alloc ?_ _)); refine blk_put (cs := #[.int .i64 0, .string (⟨#[]⟩ : ByteArray), .slice none 0 0]) ?_ 0 _ rfl; (with_reducible repeat (first | refine blk_drewN ?_ _ | refine blk_drew ?_ | refine blk_alloc ?_ _)); exact BK253.out⟩
                      have n8_ : Aside0 (Below w.heap.size w (((w83.setCell ⟨gb253, 0, none⟩ (.int .i64 ((rd_T84 l0_2 x29_2).f0))).setCell ⟨gb253, 1, none⟩ (.string ((rd_T84 l0_2 x29_2).f1))).setCell ⟨gb253, 2, none⟩ (.slice A252_2 ((rd_T84 l0_2 x29_2).f2).length c252_2))) := ⟨by repeat (first | (with_reducible first | exact HB.out | apply below_alloc | apply pw_below_drewN | apply below_drew1 | refine below_set ?_ GE244.out | refine below_set ?_ GE245.out | refine below_set ?_ GE251.out | refine below_set ?_ GE253.out) | exact HB.out)⟩
                      (try clear HO_27)
                      (try clear HO_245002)
                      (try clear HO_252002)
                      (try clear HL252_2)
                      (try clear BK244)
                      (try clear BK245)
                      (try clear BK251)
                      (try clear BK253)
                      (try clear HB)
                      generalize (((w83.setCell ⟨gb253, 0, none⟩ (.int .i64 ((rd_T84 l0_2 x29_2).f0))).setCell ⟨gb253, 1, none⟩ (.string ((rd_T84 l0_2 x29_2).f1))).setCell ⟨gb253, 2, none⟩ (.slice A252_2 ((rd_T84 l0_2 x29_2).f2).length c252_2)) = w91 at n0_ n1_ n2_ n3_ n4_ n5_ n6_ n7_ n8_ ⊢
                      have HO_27 := n0_
                      have HO_245002 := n1_
                      have HO_252002 := n2_
                      have HL252_2 := n3_
                      have BK244 := n4_
                      have BK245 := n5_
                      have BK251 := n6_
                      have BK253 := n7_
                      have HB := n8_
                      clear n0_ n1_ n2_ n3_ n4_ n5_ n6_ n7_ n8_
                      have n0_ := Aside0.mk (Kd.V_drew HO_27.out)
                      have n1_ := Aside0.mk (Kd.V_drew HO_245002.out)
                      have n2_ := Aside0.mk (Kd.N_drew HO_252002.out)
                      have n3_ := Aside0.mk (Kd.V_drew HL252_2.out)
                      have n4_ := Aside0.mk (blk_drew BK244.out)
                      have n5_ := Aside0.mk (blk_drew BK245.out)
                      have n6_ := Aside0.mk (blk_drew BK251.out)
                      have n7_ := Aside0.mk (blk_drew BK253.out)
                      have n8_ := Aside0.mk (below_drew1 HB.out)
                      clear HO_27
                      clear HO_245002
                      clear HO_252002
                      clear HL252_2
                      clear BK244
                      clear BK245
                      clear BK251
                      clear BK253
                      clear HB
                      have HO_27 := n0_
                      have HO_245002 := n1_
                      have HO_252002 := n2_
                      have HL252_2 := n3_
                      have BK244 := n4_
                      have BK245 := n5_
                      have BK251 := n6_
                      have BK253 := n7_
                      have HB := n8_
                      clear n0_ n1_ n2_ n3_ n4_ n5_ n6_ n7_ n8_
                      refine start_ (n := 10) (S := fun w' => w'.cell? ⟨gb251, 0, none⟩ = some (.int .i64 a0_0) ∧ w'.cell? ⟨gb251, 1, none⟩ = some (.string a0_1) ∧ w'.cell? ⟨gb251, 2, none⟩ = some (u252002) ∧ w'.cell? ⟨gb253, 0, none⟩ = some (.int .i64 ((rd_T84 l0_2 x29_2).f0)) ∧ w'.cell? ⟨gb253, 1, none⟩ = some (.string ((rd_T84 l0_2 x29_2).f1)) ∧ w'.cell? ⟨gb253, 2, none⟩ = some (.slice A252_2 ((rd_T84 l0_2 x29_2).f2).length c252_2)) (ds := [9]) #[false, false, false, false, false, false, false, false, false, false] (by kernel_rfl) rfl rfl ⟨(blk_cell BK251.out 0).trans rfl, (blk_cell BK251.out 1).trans rfl, (blk_cell BK251.out 2).trans rfl, (blk_cell BK253.out 0).trans rfl, (blk_cell BK253.out 1).trans rfl, (blk_cell BK253.out 2).trans rfl⟩ (fun hHeld => ?_); refine with_tabW saplinglaw13_put.tab9 saplinglaw13_put.bits9 (fun HT_ HW_ => ?_)
                      generalize w91.drew = w92 at HO_27 HO_245002 HO_252002 HL252_2 BK244 BK245 BK251 BK253 HB hHeld ⊢
                      refine pure_ (i := 0) (N := some 53) (v := ?_) (a' := ?_) #[true, false, false, false, false, false, false, false, false, false] rfl rfl (any_of HT_.out (by kernel_rfl)) (fun _ _ _ h => h) (Or.inl ⟨by rfl, ?_⟩) ?_ ?_
                      rotate_left
                      · intro w'
                        go_simp
                        with_reducible rfl
                      rotate_left
                      · simp only [Act.put, List.setIfInBounds_toArray, List.set_cons_zero, List.set_cons_succ, i64_w, i32_w]
                        rfl
                      refine pure_ (i := 3) (N := some 56) (v := ?_) (a' := ?_) #[true, false, false, true, false, false, false, false, false, false] rfl rfl (any_of HT_.out (by kernel_rfl)) (fun _ _ _ h => h) (Or.inl ⟨by rfl, ?_⟩) ?_ ?_
                      rotate_left
                      · intro w'
                        go_simp
                        with_reducible rfl
                      rotate_left
                      · simp only [Act.put, List.setIfInBounds_toArray, List.set_cons_zero, List.set_cons_succ, i64_w, i32_w]
                        rfl
                      refine pure_ (i := 4) (N := some 57) (v := ?_) (a' := ?_) #[true, false, false, true, true, false, false, false, false, false] rfl rfl (any_of HT_.out (by kernel_rfl)) (fun _ _ _ h => h) (Or.inl ⟨by rfl, ?_⟩) ?_ ?_
                      rotate_left
                      · intro w'
                        go_simp
                        with_reducible rfl
                      rotate_left
                      · simp only [Act.put, List.setIfInBounds_toArray, List.set_cons_zero, List.set_cons_succ, i64_w, i32_w]
                        rfl
                      refine take_ (i := 1) (N := some 54) (v := ?_) (a' := ?_) #[true, true, false, true, true, false, false, false, false, false] rfl rfl (take_ofW HT_.out HW_.out (by kernel_rfl)) (fun _ _ _ h => h) (Or.inl ⟨by rfl, ?_⟩) hHeld ?_ ?_
                      rotate_left
                      · rintro w' ⟨s0, s1, s2, s3, s4, s5⟩
                        go_simp
                        with_reducible rfl
                      rotate_left
                      · simp only [Act.put, List.setIfInBounds_toArray, List.set_cons_zero, List.set_cons_succ, i64_w, i32_w]
                        rfl
                      refine take_ (i := 2) (N := some 55) (v := ?_) (a' := ?_) #[true, true, true, true, true, false, false, false, false, false] rfl rfl (take_ofW HT_.out HW_.out (by kernel_rfl)) (fun _ _ _ h => h) (Or.inl ⟨by rfl, ?_⟩) hHeld ?_ ?_
                      rotate_left
                      · rintro w' ⟨s0, s1, s2, s3, s4, s5⟩
                        go_simp
                        with_reducible rfl
                      rotate_left
                      · simp only [Act.put, List.setIfInBounds_toArray, List.set_cons_zero, List.set_cons_succ, i64_w, i32_w]
                        rfl
                      refine one_ (i := 5) (N := some 58) #[true, true, true, true, true, true, false, false, false, false] rfl rfl (one_of HT_.out (by kernel_rfl)) (by decide) (fun K hK => ?_)
                      refine goes_ Tryz.func50 (by kernel_rfl) rfl #[.agg #[.int .i64 ((rd_T84 l0_2 x29_2).f0), .string ((rd_T84 l0_2 x29_2).f1), .slice A252_2 ((rd_T84 l0_2 x29_2).f2).length c252_2], .string a1, .string a2] (by rfl) rfl rfl (by (try simp only [List.map_toArray, List.map_cons, List.map_nil]); first | done | rfl | (simp only [List.length_drop, List.length_take]; rfl)) ?_
                      with_reducible refine (ih k2 (by have := HJ3.out; have := HK2.out; omega) ((rd_T84 l0_2 x29_2).f0) ((rd_T84 l0_2 x29_2).f1) (fun k_ => ((P0_2_ k_ ∨ w.heap.size ≤ k_) ∧ (some k_ ≠ (u252002 : Value).ownBlock ∧ (k_ ≠ gb244 ∧ (k_ ≠ gb245 ∧ (k_ ≠ gb251 ∧ k_ ≠ gb253)))))) _ _ ((rd_T84 l0_2 x29_2).f2) a1 a2 t273 t274 t275 _ ?side1 A81.out).mono ?_
                      (case side1 => exact HL252_2.out)
                      rintro e w93 ⟨v276, rfl, ho0, hb⟩
                      refine ⟨_, rfl, ?_⟩
                      have n0_ := Aside0.mk (Kd.V_elder' (by (with_reducible repeat (first | apply Kd.V_alloc | apply Kd.V_drewN | apply Kd.V_drew)); exact HO_27.out) (Kd.N_base ho0) hb)
                      have n1_ := Aside0.mk (Kd.V_elder' (by (with_reducible repeat (first | apply Kd.V_alloc | apply Kd.V_drewN | apply Kd.V_drew)); exact HO_245002.out) (Kd.N_base ho0) hb)
                      have n2_ := Aside0.mk (Kd.N_elder' (by (with_reducible repeat (first | apply Kd.N_alloc | apply Kd.N_drewN | apply Kd.N_drew)); exact HO_252002.out) (Kd.N_base ho0) hb)
                      have n3_ := Aside0.mk (Kd.V_elder' (by (with_reducible repeat (first | apply Kd.V_alloc | apply Kd.V_drewN | apply Kd.V_drew)); exact HL252_2.out) (Kd.N_base ho0) hb)
                      have n4_ := Aside0.mk (Kd.N_lower (Kd.N_mono (ok' := fun k_ => (P0_2_ k_ ∨ w.heap.size ≤ k_) ∧ some k_ ≠ (u252002 : Value).ownBlock ∧ k_ ≠ gb244 ∧ k_ ≠ gb245 ∧ k_ ≠ gb251 ∧ k_ ≠ gb253) ho0 (fun k_ hk_ => ⟨Or.elim hk_ (fun hs_ => hs_.1) (fun hn_ => (.inr (Nat.le_trans (below_size (by repeat (first | (with_reducible first | exact HB.out | apply below_alloc | apply pw_below_drewN | apply below_drew1 | refine below_set ?_ GE244.out | refine below_set ?_ GE245.out | refine below_set ?_ GE251.out | refine below_set ?_ GE253.out) | exact HB.out))) hn_))), Or.elim hk_ (fun hs_ => hs_.2.1) (fun hn_ => (Kd.fresh' (Kd.N_lt (by (with_reducible repeat (first | apply Kd.N_alloc | apply Kd.N_drewN | apply Kd.N_drew)); exact HO_252002.out)) k_ hn_)), Or.elim hk_ (fun hs_ => hs_.2.2.1) (fun hn_ => (Kd.freshB (g := gb244) (o := .cells #[.int .i64 a0_0, .string a0_1, .slice (some ad252) l0_2.length c0_2] 84 (0, 0)) (by (with_reducible repeat (first | refine blk_drewN ?_ _ | refine blk_drew ?_ | refine blk_alloc ?_ _)); exact BK244.out) k_ hn_)), Or.elim hk_ (fun hs_ => hs_.2.2.2.1) (fun hn_ => (Kd.freshB (g := gb245) (o := .cells #[.int .i64 0, .string (⟨#[]⟩ : ByteArray), .slice none 0 0] 84 (0, 0)) (by (with_reducible repeat (first | refine blk_drewN ?_ _ | refine blk_drew ?_ | refine blk_alloc ?_ _)); exact BK245.out) k_ hn_)), Or.elim hk_ (fun hs_ => hs_.2.2.2.2.1) (fun hn_ => (Kd.freshB (g := gb251) (o := .cells #[.int .i64 a0_0, .string a0_1, u252002] 84 (0, 0)) (by (with_reducible repeat (first | refine blk_drewN ?_ _ | refine blk_drew ?_ | refine blk_alloc ?_ _)); exact BK251.out) k_ hn_)), Or.elim hk_ (fun hs_ => hs_.2.2.2.2.2) (fun hn_ => (Kd.freshB (g := gb253) (o := .cells #[.int .i64 ((rd_T84 l0_2 x29_2).f0), .string ((rd_T84 l0_2 x29_2).f1), .slice A252_2 ((rd_T84 l0_2 x29_2).f2).length c252_2] 84 (0, 0)) (by (with_reducible repeat (first | refine blk_drewN ?_ _ | refine blk_drew ?_ | refine blk_alloc ?_ _)); exact BK253.out) k_ hn_))⟩)) (below_size (by repeat (first | (with_reducible first | exact HB.out | apply below_alloc | apply pw_below_drewN | apply below_drew1 | refine below_set ?_ GE244.out | refine below_set ?_ GE245.out | refine below_set ?_ GE251.out | refine below_set ?_ GE253.out) | exact HB.out))))
                      have n5_ := Aside0.mk (blk_below (g := gb244) (o := .cells #[.int .i64 a0_0, .string a0_1, .slice (some ad252) l0_2.length c0_2] 84 (0, 0)) (by (with_reducible repeat (first | refine blk_drewN ?_ _ | refine blk_drew ?_ | refine blk_alloc ?_ _)); exact BK244.out) hb)
                      have n6_ := Aside0.mk (blk_below (g := gb245) (o := .cells #[.int .i64 0, .string (⟨#[]⟩ : ByteArray), .slice none 0 0] 84 (0, 0)) (by (with_reducible repeat (first | refine blk_drewN ?_ _ | refine blk_drew ?_ | refine blk_alloc ?_ _)); exact BK245.out) hb)
                      have n7_ := Aside0.mk (blk_below (g := gb251) (o := .cells #[.int .i64 a0_0, .string a0_1, u252002] 84 (0, 0)) (by (with_reducible repeat (first | refine blk_drewN ?_ _ | refine blk_drew ?_ | refine blk_alloc ?_ _)); exact BK251.out) hb)
                      have n8_ := Aside0.mk (blk_below (g := gb253) (o := .cells #[.int .i64 ((rd_T84 l0_2 x29_2).f0), .string ((rd_T84 l0_2 x29_2).f1), .slice A252_2 ((rd_T84 l0_2 x29_2).f2).length c252_2] 84 (0, 0)) (by (with_reducible repeat (first | refine blk_drewN ?_ _ | refine blk_drew ?_ | refine blk_alloc ?_ _)); exact BK253.out) hb)
                      have n9_ := Aside0.mk (below_step (by repeat (first | (with_reducible first | exact HB.out | apply below_alloc | apply pw_below_drewN | apply below_drew1 | refine below_set ?_ GE244.out | refine below_set ?_ GE245.out | refine below_set ?_ GE251.out | refine below_set ?_ GE253.out) | exact HB.out)) hb)
                      clear HO_27
                      clear HO_245002
                      clear HO_252002
                      clear HL252_2
                      clear BK244
                      clear BK245
                      clear BK251
                      clear BK253
                      clear HB
                      have HO_27 := n0_
                      have HO_245002 := n1_
                      have HO_252002 := n2_
                      have HL252_2 := n3_
                      have HO277 := n4_
                      have BK244 := n5_
                      have BK245 := n6_
                      have BK251 := n7_
                      have BK253 := n8_
                      have HB := n9_
                      clear n0_ n1_ n2_ n3_ n4_ n5_ n6_ n7_ n8_ n9_
                      (try clear hb)
                      (try clear hb2)
                      (try clear hk)
                      (try clear hi)
                      (try clear ho0)
                      obtain ⟨Ao95, co95, eo95⟩ := Kd.N_slice HO277.out
                      (first | subst eo95 | (injection eo95 with f1_ f2_ f3_; have f4_ := f1_.symm; have f5_ := f3_.symm; clear f1_ f2_ f3_; subst f4_; subst f5_))
                      refine hK.out _ _ ⟨(blk_cell BK251.out 0).trans rfl, (blk_cell BK251.out 1).trans rfl, (blk_cell BK251.out 2).trans rfl, (blk_cell BK253.out 0).trans rfl, (blk_cell BK253.out 1).trans rfl, (blk_cell BK253.out 2).trans rfl⟩ (fun hHeld => ?_)
                      clear hK K
                      refine norm_ (a' := ?_) ?_ ?_
                      rotate_left
                      · show Act.put _ (some 58) _ = _
                        simp only [Act.put, List.setIfInBounds_toArray, List.set_cons_zero, List.set_cons_succ, i64_w, i32_w]
                        rfl
                      refine one_ (i := 6) (N := some 59) #[true, true, true, true, true, true, true, false, false, false] rfl rfl (one_of HT_.out (by kernel_rfl)) (by decide) (fun K hK => ?_)
                      refine value_ (w1 := ?_) (v := ?_) (by rfl) rfl ?_ ?_
                      rotate_left 2
                      · go_simp
                        constructor
                        · rfl
                        · rfl
                      refine hK.out _ _ ⟨(blk_cell (blk_alloc BK251.out _) 0).trans rfl, (blk_cell (blk_alloc BK251.out _) 1).trans rfl, (blk_cell (blk_alloc BK251.out _) 2).trans rfl, (blk_cell (blk_alloc BK253.out _) 0).trans rfl, (blk_cell (blk_alloc BK253.out _) 1).trans rfl, (blk_cell (blk_alloc BK253.out _) 2).trans rfl⟩ (fun hHeld => ?_)
                      clear hK K
                      refine norm_ (a' := ?_) ?_ ?_
                      rotate_left
                      · show Act.put _ (some 59) _ = _
                        simp only [Act.put, List.setIfInBounds_toArray, List.set_cons_zero, List.set_cons_succ, i64_w, i32_w]
                        rfl
                      refine one_ (i := 7) (N := some 60) #[true, true, true, true, true, true, true, true, false, false] rfl rfl (one_of HT_.out (by kernel_rfl)) (by decide) (fun K hK => ?_)
                      refine Kd.N_append_step k84 (w0 := w) w.heap.size (by rfl) (.tmp 54) (.tmp 59) 82 84 (.agg #[(.int .i64 0), (.string ⟨#[]⟩), (.slice none 0 0)]) 48 rfl Tryz.underlying82 info84 rfl (by decide) (by omega) u252002 x252002_2 (⟨t273, t274, t275⟩ : S84) [.int .i64 t273, .string t274, .slice Ao95 t275.length co95] (fun k_ => (P0_2_ k_ ∨ w.heap.size ≤ k_) ∧ k_ ≠ gb244 ∧ k_ ≠ gb245 ∧ k_ ≠ gb251 ∧ k_ ≠ gb253) (fun k_ => ((fun k_ => (P0_2_ k_ ∨ w.heap.size ≤ k_) ∧ k_ ≠ gb244 ∧ k_ ≠ gb245 ∧ k_ ≠ gb251 ∧ k_ ≠ gb253)) k_ ∧ some k_ ≠ (u252002 : Value).ownBlock) rfl rfl ?aP (fun _ hk => hk) ?aF ?aO ?aB ?aS ?aL ?_
                      (case aP => exact (k84_mkF _ _ (⟨t273, t274, t275⟩ : S84) (Kd.N_reads' (Kd.N_mono (ok' := (fun k_ => ((fun k_ => (P0_2_ k_ ∨ w.heap.size ≤ k_) ∧ k_ ≠ gb244 ∧ k_ ≠ gb245 ∧ k_ ≠ gb251 ∧ k_ ≠ gb253)) k_ ∧ some k_ ≠ (u252002 : Value).ownBlock)) (HO277.out) (fun k_ hk => ⟨⟨hk.1, ⟨hk.2.2.1, ⟨hk.2.2.2.1, ⟨hk.2.2.2.2.1, hk.2.2.2.2.2⟩⟩⟩⟩, hk.2.1⟩))).2.1 (Kd.N_F (Kd.N_mono (ok' := (fun k_ => ((fun k_ => (P0_2_ k_ ∨ w.heap.size ≤ k_) ∧ k_ ≠ gb244 ∧ k_ ≠ gb245 ∧ k_ ≠ gb251 ∧ k_ ≠ gb253)) k_ ∧ some k_ ≠ (u252002 : Value).ownBlock)) (HO277.out) (fun k_ hk => ⟨⟨hk.1, ⟨hk.2.2.1, ⟨hk.2.2.2.1, ⟨hk.2.2.2.2.1, hk.2.2.2.2.2⟩⟩⟩⟩, hk.2.1⟩)))))
                      (case aB => exact (by repeat (first | (with_reducible first | exact HB.out | apply below_alloc | apply pw_below_drewN | apply below_drew1 | refine below_set ?_ GE244.out | refine below_set ?_ GE245.out | refine below_set ?_ GE251.out | refine below_set ?_ GE253.out) | exact HB.out)))
                      (case aF => exact (fun k_ hk => ⟨(.inr (Nat.le_trans (below_size (by repeat (first | (with_reducible first | exact HB.out | apply below_alloc | apply pw_below_drewN | apply below_drew1 | refine below_set ?_ GE244.out | refine below_set ?_ GE245.out | refine below_set ?_ GE251.out | refine below_set ?_ GE253.out) | exact HB.out))) hk)), Kd.freshB (g := gb244) (o := .cells #[.int .i64 a0_0, .string a0_1, .slice (some ad252) l0_2.length c0_2] 84 (0, 0)) (by (with_reducible repeat (first | refine blk_drewN ?_ _ | refine blk_drew ?_ | refine blk_alloc ?_ _)); exact BK244.out) k_ hk, Kd.freshB (g := gb245) (o := .cells #[.int .i64 0, .string (⟨#[]⟩ : ByteArray), .slice none 0 0] 84 (0, 0)) (by (with_reducible repeat (first | refine blk_drewN ?_ _ | refine blk_drew ?_ | refine blk_alloc ?_ _)); exact BK245.out) k_ hk, Kd.freshB (g := gb251) (o := .cells #[.int .i64 a0_0, .string a0_1, u252002] 84 (0, 0)) (by (with_reducible repeat (first | refine blk_drewN ?_ _ | refine blk_drew ?_ | refine blk_alloc ?_ _)); exact BK251.out) k_ hk, Kd.freshB (g := gb253) (o := .cells #[.int .i64 ((rd_T84 l0_2 x29_2).f0), .string ((rd_T84 l0_2 x29_2).f1), .slice A252_2 ((rd_T84 l0_2 x29_2).f2).length c252_2] 84 (0, 0)) (by (with_reducible repeat (first | refine blk_drewN ?_ _ | refine blk_drew ?_ | refine blk_alloc ?_ _)); exact BK253.out) k_ hk⟩))
                      (case aO => exact (by (with_reducible repeat (first | apply Kd.N_alloc | apply Kd.N_drewN | apply Kd.N_drew)); exact Kd.N_mono HO_252002.out (fun _ hk => ⟨hk.1.1, ⟨hk.1.2.1, ⟨hk.1.2.2.1, ⟨hk.1.2.2.2.1, hk.1.2.2.2.2⟩⟩⟩⟩)))
                      (case aS => exact (below_size (by repeat (first | (with_reducible first | exact HB.out | apply below_alloc | apply pw_below_drewN | apply below_drew1 | refine below_set ?_ GE244.out | refine below_set ?_ GE245.out | refine below_set ?_ GE251.out | refine below_set ?_ GE253.out) | exact HB.out))))
                      (case aL => have := LMc82.out; omega)
                      intro v279 w94 ho hb hg hat
                      rw [← Ny278.out] at ho
                      have n0_ := Aside0.mk (Kd.V_afterv (ok := (fun k_ => (P0_2_ k_ ∨ w.heap.size ≤ k_) ∧ some k_ ≠ (.slice Ao95 t275.length co95 : Value).ownBlock ∧ k_ ≠ gb244 ∧ k_ ≠ gb245 ∧ k_ ≠ gb251 ∧ k_ ≠ gb253)) (by (with_reducible repeat (first | apply Kd.V_alloc | apply Kd.V_drewN | apply Kd.V_drew)); exact Kd.V_mono HO_27.out (fun _ hk => ⟨⟨hk.1.1, ⟨hk.2, ⟨hk.1.2.2.1, ⟨hk.1.2.2.2.1, ⟨hk.1.2.2.2.2.1, hk.1.2.2.2.2.2⟩⟩⟩⟩⟩, hk.1.2.1⟩)) hg hat)
                      have n1_ := Aside0.mk (Kd.V_afterv (ok := (fun k_ => (P0_2_ k_ ∨ w.heap.size ≤ k_) ∧ some k_ ≠ (.slice Ao95 t275.length co95 : Value).ownBlock ∧ k_ ≠ gb244 ∧ k_ ≠ gb245 ∧ k_ ≠ gb251 ∧ k_ ≠ gb253)) (by (with_reducible repeat (first | apply Kd.V_alloc | apply Kd.V_drewN | apply Kd.V_drew)); exact Kd.V_mono HO_245002.out (fun _ hk => ⟨⟨hk.1.1, ⟨hk.2, ⟨hk.1.2.2.1, ⟨hk.1.2.2.2.1, ⟨hk.1.2.2.2.2.1, hk.1.2.2.2.2.2⟩⟩⟩⟩⟩, hk.1.2.1⟩)) hg hat)
                      have n2_ := Aside0.mk (blk_grown (g := gb244) (o := .cells #[.int .i64 a0_0, .string a0_1, .slice (some ad252) l0_2.length c0_2] 84 (0, 0)) (by (with_reducible repeat (first | refine blk_drewN ?_ _ | refine blk_drew ?_ | refine blk_alloc ?_ _)); exact BK244.out) hg (Kd.N_away HO_252002.out (fun _ hk => hk.1.2.1)))
                      have n3_ := Aside0.mk (blk_grown (g := gb245) (o := .cells #[.int .i64 0, .string (⟨#[]⟩ : ByteArray), .slice none 0 0] 84 (0, 0)) (by (with_reducible repeat (first | refine blk_drewN ?_ _ | refine blk_drew ?_ | refine blk_alloc ?_ _)); exact BK245.out) hg (Kd.N_away HO_252002.out (fun _ hk => hk.1.2.2.1)))
                      have n4_ := Aside0.mk (blk_grown (g := gb251) (o := .cells #[.int .i64 a0_0, .string a0_1, u252002] 84 (0, 0)) (by (with_reducible repeat (first | refine blk_drewN ?_ _ | refine blk_drew ?_ | refine blk_alloc ?_ _)); exact BK251.out) hg (Kd.N_away HO_252002.out (fun _ hk => hk.1.2.2.2.1)))
                      have n5_ := Aside0.mk (Kd.V_afterv (ok := (fun k_ => (P0_2_ k_ ∨ w.heap.size ≤ k_) ∧ some k_ ≠ (.slice Ao95 t275.length co95 : Value).ownBlock ∧ k_ ≠ gb244 ∧ k_ ≠ gb245 ∧ k_ ≠ gb251 ∧ k_ ≠ gb253)) (by (with_reducible repeat (first | apply Kd.V_alloc | apply Kd.V_drewN | apply Kd.V_drew)); exact Kd.V_mono HL252_2.out (fun _ hk => ⟨⟨hk.1.1, ⟨hk.2, ⟨hk.1.2.2.1, ⟨hk.1.2.2.2.1, ⟨hk.1.2.2.2.2.1, hk.1.2.2.2.2.2⟩⟩⟩⟩⟩, hk.1.2.1⟩)) hg hat)
                      have n6_ := Aside0.mk (blk_grown (g := gb253) (o := .cells #[.int .i64 ((rd_T84 l0_2 x29_2).f0), .string ((rd_T84 l0_2 x29_2).f1), .slice A252_2 ((rd_T84 l0_2 x29_2).f2).length c252_2] 84 (0, 0)) (by (with_reducible repeat (first | refine blk_drewN ?_ _ | refine blk_drew ?_ | refine blk_alloc ?_ _)); exact BK253.out) hg (Kd.N_away HO_252002.out (fun _ hk => hk.1.2.2.2.2)))
                      have n7_ := Aside0.mk (hb)
                      have n8_ := Aside0.mk (ho)
                      clear HO_27
                      clear HO_245002
                      clear BK244
                      clear BK245
                      clear BK251
                      clear HL252_2
                      clear BK253
                      clear HB
                      clear HO_252002
                      clear HO277
                      have HO_27 := n0_
                      have HO_245002 := n1_
                      have BK244 := n2_
                      have BK245 := n3_
                      have BK251 := n4_
                      have HL252_2 := n5_
                      have BK253 := n6_
                      have HB := n7_
                      have HO280 := n8_
                      clear n0_ n1_ n2_ n3_ n4_ n5_ n6_ n7_ n8_
                      clear ho hb hg hat
                      obtain ⟨Ao96, co96, eo96⟩ := Kd.N_slice HO280.out
                      (first | subst eo96 | (injection eo96 with f1_ f2_ f3_; have f4_ := f1_.symm; have f5_ := f3_.symm; clear f1_ f2_ f3_; subst f4_; subst f5_))
                      refine hK.out _ _ ⟨(blk_cell BK251.out 0).trans rfl, (blk_cell BK251.out 1).trans rfl, (blk_cell BK251.out 2).trans rfl, (blk_cell BK253.out 0).trans rfl, (blk_cell BK253.out 1).trans rfl, (blk_cell BK253.out 2).trans rfl⟩ (fun hHeld => ?_)
                      clear hK K
                      refine norm_ (a' := ?_) ?_ ?_
                      rotate_left
                      · show Act.put _ (some 60) _ = _
                        simp only [Act.put, List.setIfInBounds_toArray, List.set_cons_zero, List.set_cons_succ, i64_w, i32_w]
                        rfl
                      refine pure_ (i := 8) (N := some 61) (v := ?_) (a' := ?_) #[true, true, true, true, true, true, true, true, true, false] rfl rfl (any_of HT_.out (by kernel_rfl)) (fun _ _ _ h => h) (Or.inl ⟨by rfl, ?_⟩) ?_ ?_
                      rotate_left
                      · intro w'
                        go_simp
                        with_reducible rfl
                      rotate_left
                      · simp only [Act.put, List.setIfInBounds_toArray, List.set_cons_zero, List.set_cons_succ, i64_w, i32_w]
                        rfl
                      refine last_ (i := 9) (N := none) #[true, true, true, true, true, true, true, true, true, true] rfl rfl (one_of HT_.out (by kernel_rfl)) (by decide) (fun K hK => ?_)
                      have hs97 : w94.cell? ⟨gb251, 2, none⟩ = some (u252002) := (blk_cell BK251.out 2).trans rfl
                      have hfs97 := blk_frozen BK251.out 2
                      have hns97_0 := NB244_251.out
                      have hns97_1 := NB245_251.out
                      have hns97_3 := NB253_251.out
                      have hms97_0 := NB251_244.out
                      have hms97_1 := NB251_245.out
                      have hms97_3 := NB251_253.out
                      refine skip_ (w1 := ?_) (by rfl) rfl ?_ ?_
                      rotate_left
                      · go_simp
                        rfl
                      refine hK.out _ _ ?_
                      clear hK K
                      refine done_ (done_of HT_.out (by kernel_rfl)) ?_
                      try go_wp2
                      go_roundg k2
                      case measure => have := HJ3.out; have := HK2.out; omega
                      case rel => exact ⟨(wrap64 (x29_2 + 1)), (y278), (.slice Ao96 y278.length co96), (by first | rfl | (simp; done) | (simp [*]; done) | (have e_ : ∀ l : List UInt8, (l != []) = !l.isEmpty := (fun l => by cases l <;> rfl); simp [e_]; done)), H', ⟨by have := HJ3.out; have := HK2.out; omega⟩, ⟨by (with_reducible repeat (first | apply Kd.V_alloc | apply Kd.V_drewN | apply Kd.V_drew)); exact Kd.V_mono (Kd.V_far (p := ⟨gb251, 2, none⟩) (Kd.V_mono HO_27.out (fun k_ hk => (⟨hk, hk.1.2.2.2.2.1⟩ : _ ∧ k_ ≠ gb251))) (fun _ hk => hk.2) (.slice Ao96 y278.length co96)) (fun _ hk => ⟨hk.1.1.1, ⟨hk.1.2, ⟨hk.1.1.2.2.1, ⟨hk.1.1.2.2.2.1, hk.1.1.2.2.2.2.1⟩⟩⟩⟩)⟩, ⟨by (with_reducible repeat (first | apply Kd.V_alloc | apply Kd.V_drewN | apply Kd.V_drew)); exact Kd.V_mono (Kd.V_far (p := ⟨gb251, 2, none⟩) (Kd.V_mono HO_245002.out (fun k_ hk => (⟨hk, hk.1.2.2.2.2.1⟩ : _ ∧ k_ ≠ gb251))) (fun _ hk => hk.2) (.slice Ao96 y278.length co96)) (fun _ hk => ⟨hk.1.1.1, ⟨hk.1.2, ⟨hk.1.1.2.2.1, ⟨hk.1.1.2.2.2.1, hk.1.1.2.2.2.2.1⟩⟩⟩⟩)⟩, ⟨by (with_reducible repeat (first | apply Kd.N_alloc | apply Kd.N_drewN | apply Kd.N_drew)); exact Kd.N_mono (Kd.N_far (p := ⟨gb251, 2, none⟩) (Kd.N_mono HO280.out (fun k_ hk => (⟨hk, hk.2.2.2.1⟩ : _ ∧ k_ ≠ gb251))) (fun _ hk => hk.2) (.slice Ao96 y278.length co96)) (fun _ hk => ⟨hk.1.1, ⟨hk.1.2.1, ⟨hk.1.2.2.1, hk.1.2.2.2.1⟩⟩⟩)⟩, ⟨by (with_reducible repeat (first | refine blk_drewN ?_ _ | refine blk_drew ?_ | refine blk_alloc ?_ _)); refine blk_far ?_ NB244_251.out _; (with_reducible repeat (first | refine blk_drewN ?_ _ | refine blk_drew ?_ | refine blk_alloc ?_ _)); exact BK244.out⟩, ⟨by (with_reducible repeat (first | refine blk_drewN ?_ _ | refine blk_drew ?_ | refine blk_alloc ?_ _)); refine blk_far ?_ NB245_251.out _; (with_reducible repeat (first | refine blk_drewN ?_ _ | refine blk_drew ?_ | refine blk_alloc ?_ _)); exact BK245.out⟩, ⟨by (with_reducible repeat (first | refine blk_drewN ?_ _ | refine blk_drew ?_ | refine blk_alloc ?_ _)); refine blk_put (cs := #[.int .i64 a0_0, .string a0_1, u252002]) ?_ 2 _ rfl; (with_reducible repeat (first | refine blk_drewN ?_ _ | refine blk_drew ?_ | refine blk_alloc ?_ _)); exact BK251.out⟩, ⟨by repeat (first | (with_reducible first | exact HB.out | apply below_alloc | apply pw_below_drewN | apply below_drew1 | refine below_set ?_ GE244.out | refine below_set ?_ GE245.out | refine below_set ?_ GE251.out | refine below_set ?_ GE253.out) | exact HB.out)⟩⟩
                    · rw [if_neg c82] at H
                      exact absurd H (by simp)
                · rw [if_neg c27] at H
                  exact absurd H (by simp)
              · rw [if_neg c26] at H
                exact absurd H (by simp)
            · rw [if_neg c25] at H
              have c25b0 : decide (x29_2 < (l0_2.length : Int)) = false := decide_eq_false c25
              clear c25
              simp only [Option.some.injEq, Prod.mk.injEq] at H
              obtain ⟨rfl, rfl, rfl⟩ := H
              have hnb98 := NB251_244.out
              have hnc98 := NB244_251.out
              have hnb99 := NB251_245.out
              have hnc99 := NB245_251.out
              have hcz100_0 : wr.cell? ⟨gb251, 0, none⟩ = some (.int .i64 a0_0) := (blk_cell BK251.out 0).trans rfl
              have hcz100_1 : wr.cell? ⟨gb251, 1, none⟩ = some (.string a0_1) := (blk_cell BK251.out 1).trans rfl
              have hcz100_2 : wr.cell? ⟨gb251, 2, none⟩ = some (u252002) := (blk_cell BK251.out 2).trans rfl
              have hfz100_0 := blk_frozen BK251.out 0
              have hfz100_1 := blk_frozen BK251.out 1
              have hfz100_2 := blk_frozen BK251.out 2
              have hnb101 := NB245_244.out
              have hnc101 := NB244_245.out
              have hcz102_0 : wr.cell? ⟨gb245, 0, none⟩ = some (.int .i64 0) := (blk_cell BK245.out 0).trans rfl
              have hcz102_1 : wr.cell? ⟨gb245, 1, none⟩ = some (.string (⟨#[]⟩ : ByteArray)) := (blk_cell BK245.out 1).trans rfl
              have hcz102_2 : wr.cell? ⟨gb245, 2, none⟩ = some (.slice none 0 0) := (blk_cell BK245.out 2).trans rfl
              have hfz102_0 := blk_frozen BK245.out 0
              have hfz102_1 := blk_frozen BK245.out 1
              have hfz102_2 := blk_frozen BK245.out 2
              obtain ⟨Ao103, co103, eo103⟩ := Kd.N_slice HO_252002.out
              subst eo103
              go_wp2
              refine bodyPost_ret (results_cell_row rfl _ _ gb245 84 #[.int .i64 a0_0, .string a0_1, .slice Ao103 x252002_2.length co103] (0, 0) _ rfl (by (with_reducible repeat (first | refine blk_drewN ?_ _ | refine blk_drew ?_ | refine blk_alloc ?_ _)); refine blk_put (cs := #[.int .i64 a0_0, .string a0_1, .slice none 0 0]) ?_ 2 _ rfl; (with_reducible repeat (first | refine blk_drewN ?_ _ | refine blk_drew ?_ | refine blk_alloc ?_ _)); refine blk_put (cs := #[.int .i64 a0_0, .string (⟨#[]⟩ : ByteArray), .slice none 0 0]) ?_ 1 _ rfl; (with_reducible repeat (first | refine blk_drewN ?_ _ | refine blk_drew ?_ | refine blk_alloc ?_ _)); refine blk_put (cs := #[.int .i64 0, .string (⟨#[]⟩ : ByteArray), .slice none 0 0]) ?_ 0 _ rfl; (with_reducible repeat (first | refine blk_drewN ?_ _ | refine blk_drew ?_ | refine blk_alloc ?_ _)); exact BK245.out) Tryz.underlying84 rfl (by kernel_rfl)) rfl ?_
              exact ⟨_, by first | rfl | (simp [errW_none, errW_some] <;> rfl) | (simp [*, errW_none, errW_some] <;> rfl), by (with_reducible repeat (first | apply Kd.N_alloc | apply Kd.N_drewN | apply Kd.N_drew)); exact Kd.N_mono (Kd.N_far (p := ⟨gb245, 2, none⟩) (Kd.N_far (p := ⟨gb245, 1, none⟩) (Kd.N_far (p := ⟨gb245, 0, none⟩) (Kd.N_mono HO_252002.out (fun k_ hk => (⟨hk, hk.2.2.1⟩ : _ ∧ k_ ≠ gb245))) (fun _ hk => hk.2) (.int .i64 a0_0)) (fun _ hk => hk.2) (.string a0_1)) (fun _ hk => hk.2) (.slice Ao103 x252002_2.length co103)) (fun _ hk => hk.1.1), by repeat (first | (with_reducible first | exact HB.out | apply below_alloc | apply pw_below_drewN | apply below_drew1 | refine below_set ?_ GE244.out | refine below_set ?_ GE245.out | refine below_set ?_ GE251.out) | exact HB.out)⟩

end Go.Proofs.YtijgifinhbbmaaaGreatDoor.Q
