-- Written by wip/xprint.py: the machine's side of a function, by program.
import Derived.Test.YtijgifinhbbmaaaGreatDoorQ0
import Derived.Test.YtijgifinhbbmaaaGreatDoorQ114
namespace Go.Proofs.YtijgifinhbbmaaaGreatDoor.Q
open Go.RowKit Go.Proofs.YtijgifinhbbmaaaGreatDoorW.PrintWords Go.Proofs.YtijgifinhbbmaaaGreatDoorW.PrintLast Go.Proofs.YtijgifinhbbmaaaGreatDoorW.PrintMore
attribute [local go_sem] max2_int min2_int max_two min_two max_three min_three max_four min_four   -- for this text's walks alone
set_option linter.unusedVariables false
set_option linter.unusedSimpArgs false

/-! ### saplingref13_Mean: function 84 -/
mutual
def saplingref13_Mean.j3 : Nat → Int → ByteArray → Int → Option (ByteArray × Int × Int)
  | 0, _, _, _ => none
  | k + 1, x2, x9, x10 => if x10 = 0 then (if (x9.size : Int) > 256 then (some ((⟨#[]⟩ : ByteArray), x2, 43)) else (some (x9, x2, 0))) else (some ((⟨#[]⟩ : ByteArray), x2, x10))
def saplingref13_Mean.l0 : Nat → List (S219) → Int → ByteArray → Int → Int → Int → ByteArray → List (S84) → Option (ByteArray × Int × Int)
  | 0, _, _, _, _, _, _, _, _ => none
  | k + 1, x1, x2, x9, x10, x11, x178000, x178001, x178002 => if x11 ≥ 0 then (saplingref13_Mean.j1 k x1 x2 x9 x10 x11 (x10 != 0) x178000 x178001 x178002) else (saplingref13_Mean.j1 k x1 x2 x9 x10 x11 false x178000 x178001 x178002)
def saplingref13_Mean.j1 : Nat → List (S219) → Int → ByteArray → Int → Int → Bool → Int → ByteArray → List (S84) → Option (ByteArray × Int × Int)
  | 0, _, _, _, _, _, _, _, _, _ => none
  | k + 1, x1, x2, x9, x10, x11, x46, x178000, x178001, x178002 => if x46 = true then (if 0 ≤ x11 then (if x11 < (x1.length : Int) then (if ((rd_T219 x1 x11).f0).toList = x178001.toList then (saplingref13_Mean.l0 k x1 x2 ((rd_T219 x1 x11).f1) 0 (wrap64 (x11 - 1)) x178000 x178001 x178002) else (saplingref13_Mean.l0 k x1 x2 x9 x10 (wrap64 (x11 - 1)) x178000 x178001 x178002)) else (none)) else (none)) else (saplingref13_Mean.j3 k x2 x9 x10)
def saplingref13_Mean.l1 : Nat → List (S219) → Int → ByteArray → Int → List (S84) → Int → Int → Option (ByteArray × Int × Int)
  | 0, _, _, _, _, _, _, _ => none
  | k + 1, x1, x2, x9, x10, x65, x66, x67 => if x67 < x66 then (if 0 ≤ x67 then (if x67 < (x65.length : Int) then ((saplingref13_Mean.f k ((rd_T84 x65 x67).f0) ((rd_T84 x65 x67).f1) ((rd_T84 x65 x67).f2) x1 x2).bind fun bt182 => (if bt182.2.2 = 0 then (if x9.size + bt182.1.size ≤ 9223372036854775807 then (saplingref13_Mean.l1 k x1 bt182.2.1 (x9 ++ bt182.1) bt182.2.2 x65 x66 (wrap64 (x67 + 1))) else (none)) else (some ((⟨#[]⟩ : ByteArray), bt182.2.1, bt182.2.2)))) else (none)) else (none)) else (saplingref13_Mean.j3 k x2 x9 x10)
def saplingref13_Mean.f : Nat → Int → ByteArray → List (S84) → List (S219) → Int → Option (ByteArray × Int × Int)
  | 0, _, _, _, _, _ => none
  | k + 1, a0_0, a0_1, l0_2, l1, a2 => if a2 = 1000 then (some ((⟨#[]⟩ : ByteArray), a2, 52)) else (if a0_0 = 1 then (saplingref13_Mean.j3 k (wrap64 (a2 + 1)) a0_1 0) else (if a0_0 = 2 then (saplingref13_Mean.l0 k l1 (wrap64 (a2 + 1)) (⟨#[]⟩ : ByteArray) 51 (wrap64 ((l1.length : Int) - 1)) a0_0 a0_1 l0_2) else (if a0_0 = 3 then (saplingref13_Mean.l1 k l1 (wrap64 (a2 + 1)) (⟨#[]⟩ : ByteArray) 0 l0_2 (l0_2.length : Int) 0) else (if a0_0 = 4 then (if 0 < (l0_2.length : Int) then ((saplingref13_Mean.f k ((rd_T84 l0_2 0).f0) ((rd_T84 l0_2 0).f1) ((rd_T84 l0_2 0).f2) l1 (wrap64 (a2 + 1))).bind fun bt186 => (if bt186.2.2 = 0 then (if 1 < (l0_2.length : Int) then ((saplingref13_Mean.f k ((rd_T84 l0_2 1).f0) ((rd_T84 l0_2 1).f1) ((rd_T84 l0_2 1).f2) l1 bt186.2.1).bind fun bt190 => (if bt190.2.2 = 0 then (if bt186.1.toList = bt190.1.toList then (if 2 < (l0_2.length : Int) then ((saplingref13_Mean.f k ((rd_T84 l0_2 2).f0) ((rd_T84 l0_2 2).f1) ((rd_T84 l0_2 2).f2) l1 bt190.2.1).bind fun bt194 => (saplingref13_Mean.j3 k bt194.2.1 bt194.1 bt194.2.2)) else (none)) else (if 3 < (l0_2.length : Int) then ((saplingref13_Mean.f k ((rd_T84 l0_2 3).f0) ((rd_T84 l0_2 3).f1) ((rd_T84 l0_2 3).f2) l1 bt190.2.1).bind fun bt198 => (saplingref13_Mean.j3 k bt198.2.1 bt198.1 bt198.2.2)) else (none))) else (some ((⟨#[]⟩ : ByteArray), bt190.2.1, bt190.2.2)))) else (none)) else (some ((⟨#[]⟩ : ByteArray), bt186.2.1, bt186.2.2)))) else (none)) else (if a0_0 = 5 then (if 0 < (l0_2.length : Int) then ((saplingref13_Mean.f k ((rd_T84 l0_2 0).f0) ((rd_T84 l0_2 0).f1) ((rd_T84 l0_2 0).f2) l1 (wrap64 (a2 + 1))).bind fun bt202 => (if bt202.2.2 = 0 then ((some (([] : List (S219)) : List (S219))).bind fun y205 => (if y205.length + l1.length < 4398046511104 then ((some (y205 ++ l1 : List (S219))).bind fun y208 => ((some (([(⟨a0_1, bt202.1⟩ : S219)] : List (S219)) : List (S219))).bind fun y211 => (if y208.length + y211.length < 4398046511104 then (if 1 < (l0_2.length : Int) then ((saplingref13_Mean.f k ((rd_T84 l0_2 1).f0) ((rd_T84 l0_2 1).f1) ((rd_T84 l0_2 1).f2) (y208 ++ y211) bt202.2.1).bind fun bt218 => (saplingref13_Mean.j3 k bt218.2.1 bt218.1 bt218.2.2)) else (none)) else (none)))) else (none))) else (some ((⟨#[]⟩ : ByteArray), bt202.2.1, bt202.2.2)))) else (none)) else (saplingref13_Mean.j3 k (wrap64 (a2 + 1)) (⟨#[]⟩ : ByteArray) 0))))))
end
theorem saplingref13_Mean.mono_l : ∀ k, (∀ y0 y1 y2 y3 y4, LeO (saplingref13_Mean.f k y0 y1 y2 y3 y4) (saplingref13_Mean.f (k + 1) y0 y1 y2 y3 y4)) ∧ (∀ y0 y1 y2, LeO (saplingref13_Mean.j3 k y0 y1 y2) (saplingref13_Mean.j3 (k + 1) y0 y1 y2)) ∧ (∀ y0 y1 y2 y3 y4 y5 y6 y7, LeO (saplingref13_Mean.l0 k y0 y1 y2 y3 y4 y5 y6 y7) (saplingref13_Mean.l0 (k + 1) y0 y1 y2 y3 y4 y5 y6 y7)) ∧ (∀ y0 y1 y2 y3 y4 y5 y6 y7 y8, LeO (saplingref13_Mean.j1 k y0 y1 y2 y3 y4 y5 y6 y7 y8) (saplingref13_Mean.j1 (k + 1) y0 y1 y2 y3 y4 y5 y6 y7 y8)) ∧ (∀ y0 y1 y2 y3 y4 y5 y6, LeO (saplingref13_Mean.l1 k y0 y1 y2 y3 y4 y5 y6) (saplingref13_Mean.l1 (k + 1) y0 y1 y2 y3 y4 y5 y6))
  | 0 => ⟨fun _ _ _ _ _ r h => by simp [saplingref13_Mean.f] at h, fun _ _ _ r h => by simp [saplingref13_Mean.j3] at h, fun _ _ _ _ _ _ _ _ r h => by simp [saplingref13_Mean.l0] at h, fun _ _ _ _ _ _ _ _ _ r h => by simp [saplingref13_Mean.j1] at h, fun _ _ _ _ _ _ _ r h => by simp [saplingref13_Mean.l1] at h⟩
  | k + 1 => by
    obtain ⟨ih0, ih1, ih2, ih3, ih4⟩ := saplingref13_Mean.mono_l k
    refine ⟨?_, ?_, ?_, ?_, ?_⟩
    · intro y0 y1 y2 y3 y4
      unfold saplingref13_Mean.f
      repeat' first
      | (with_reducible exact ih0 _ _ _ _ _)
      | (with_reducible exact ih1 _ _ _)
      | (with_reducible exact ih2 _ _ _ _ _ _ _ _)
      | (with_reducible exact ih3 _ _ _ _ _ _ _ _ _)
      | (with_reducible exact ih4 _ _ _ _ _ _ _)
      | (with_reducible exact LeO.refl _)
      | (with_reducible exact LeO.none _)
      | (with_reducible refine LeO.ite ?_ ?_)
      | (with_reducible refine LeO.bind ?_ (fun _ => ?_))
      | exact ih0 _ _ _ _ _
      | exact ih1 _ _ _
      | exact ih2 _ _ _ _ _ _ _ _
      | exact ih3 _ _ _ _ _ _ _ _ _
      | exact ih4 _ _ _ _ _ _ _
      | exact LeO.none _
      | refine LeO.ite ?_ ?_
      | refine LeO.bind ?_ (fun _ => ?_)
    · intro y0 y1 y2
      unfold saplingref13_Mean.j3
      repeat' first
      | (with_reducible exact ih0 _ _ _ _ _)
      | (with_reducible exact ih1 _ _ _)
      | (with_reducible exact ih2 _ _ _ _ _ _ _ _)
      | (with_reducible exact ih3 _ _ _ _ _ _ _ _ _)
      | (with_reducible exact ih4 _ _ _ _ _ _ _)
      | (with_reducible exact LeO.refl _)
      | (with_reducible exact LeO.none _)
      | (with_reducible refine LeO.ite ?_ ?_)
      | (with_reducible refine LeO.bind ?_ (fun _ => ?_))
      | exact ih0 _ _ _ _ _
      | exact ih1 _ _ _
      | exact ih2 _ _ _ _ _ _ _ _
      | exact ih3 _ _ _ _ _ _ _ _ _
      | exact ih4 _ _ _ _ _ _ _
      | exact LeO.none _
      | refine LeO.ite ?_ ?_
      | refine LeO.bind ?_ (fun _ => ?_)
    · intro y0 y1 y2 y3 y4 y5 y6 y7
      unfold saplingref13_Mean.l0
      repeat' first
      | (with_reducible exact ih0 _ _ _ _ _)
      | (with_reducible exact ih1 _ _ _)
      | (with_reducible exact ih2 _ _ _ _ _ _ _ _)
      | (with_reducible exact ih3 _ _ _ _ _ _ _ _ _)
      | (with_reducible exact ih4 _ _ _ _ _ _ _)
      | (with_reducible exact LeO.refl _)
      | (with_reducible exact LeO.none _)
      | (with_reducible refine LeO.ite ?_ ?_)
      | (with_reducible refine LeO.bind ?_ (fun _ => ?_))
      | exact ih0 _ _ _ _ _
      | exact ih1 _ _ _
      | exact ih2 _ _ _ _ _ _ _ _
      | exact ih3 _ _ _ _ _ _ _ _ _
      | exact ih4 _ _ _ _ _ _ _
      | exact LeO.none _
      | refine LeO.ite ?_ ?_
      | refine LeO.bind ?_ (fun _ => ?_)
    · intro y0 y1 y2 y3 y4 y5 y6 y7 y8
      unfold saplingref13_Mean.j1
      repeat' first
      | (with_reducible exact ih0 _ _ _ _ _)
      | (with_reducible exact ih1 _ _ _)
      | (with_reducible exact ih2 _ _ _ _ _ _ _ _)
      | (with_reducible exact ih3 _ _ _ _ _ _ _ _ _)
      | (with_reducible exact ih4 _ _ _ _ _ _ _)
      | (with_reducible exact LeO.refl _)
      | (with_reducible exact LeO.none _)
      | (with_reducible refine LeO.ite ?_ ?_)
      | (with_reducible refine LeO.bind ?_ (fun _ => ?_))
      | exact ih0 _ _ _ _ _
      | exact ih1 _ _ _
      | exact ih2 _ _ _ _ _ _ _ _
      | exact ih3 _ _ _ _ _ _ _ _ _
      | exact ih4 _ _ _ _ _ _ _
      | exact LeO.none _
      | refine LeO.ite ?_ ?_
      | refine LeO.bind ?_ (fun _ => ?_)
    · intro y0 y1 y2 y3 y4 y5 y6
      unfold saplingref13_Mean.l1
      repeat' first
      | (with_reducible exact ih0 _ _ _ _ _)
      | (with_reducible exact ih1 _ _ _)
      | (with_reducible exact ih2 _ _ _ _ _ _ _ _)
      | (with_reducible exact ih3 _ _ _ _ _ _ _ _ _)
      | (with_reducible exact ih4 _ _ _ _ _ _ _)
      | (with_reducible exact LeO.refl _)
      | (with_reducible exact LeO.none _)
      | (with_reducible refine LeO.ite ?_ ?_)
      | (with_reducible refine LeO.bind ?_ (fun _ => ?_))
      | exact ih0 _ _ _ _ _
      | exact ih1 _ _ _
      | exact ih2 _ _ _ _ _ _ _ _
      | exact ih3 _ _ _ _ _ _ _ _ _
      | exact ih4 _ _ _ _ _ _ _
      | exact LeO.none _
      | refine LeO.ite ?_ ?_
      | refine LeO.bind ?_ (fun _ => ?_)
theorem saplingref13_Mean.mono : ∀ a0 a1 a2 a3 a4 k, LeO (saplingref13_Mean.f k a0 a1 a2 a3 a4) (saplingref13_Mean.f (k + 1) a0 a1 a2 a3 a4) := by
  intro a0 a1 a2 a3 a4 k
  obtain ⟨ih0, ih1, ih2, ih3, ih4⟩ := saplingref13_Mean.mono_l k
  exact ih0 a0 a1 a2 a3 a4
def saplingref13_Mean.T14 : Bool × List (List Nat × List Nat) := (true, [([], []), ([], []), ([0, 1], [0, 1]), ([2], [2]), ([3], [3]), ([], []), ([5], [5]), ([4, 6], [4, 6])])
def saplingref13_Mean.B14 : List Nat := [0, 0, 3, 7, 15, 0, 32, 127]
theorem saplingref13_Mean.tab14 : rtab .any (opsOf Tryz.f84 14) = saplingref13_Mean.T14 := by kernel_rfl
theorem saplingref13_Mean.bits14 : waitsOk saplingref13_Mean.T14.2 saplingref13_Mean.B14 = true := by kernel_rfl
def saplingref13_Mean.T41 : Bool × List (List Nat × List Nat) := (true, [([], []), ([], []), ([0, 1], [0, 1]), ([], []), ([3], [3]), ([], []), ([4, 5], [4, 5]), ([6], [6]), ([2, 7, 2], [2, 7]), ([8, 8, 0, 1, 2, 3, 4, 5, 6, 7, 8], [8])])
def saplingref13_Mean.B41 : List Nat := [0, 0, 3, 0, 8, 0, 56, 120, 255, 511]
theorem saplingref13_Mean.tab41 : rtab .any (opsOf Tryz.f84 41) = saplingref13_Mean.T41 := by kernel_rfl
theorem saplingref13_Mean.bits41 : waitsOk saplingref13_Mean.T41.2 saplingref13_Mean.B41 = true := by kernel_rfl
set_option maxHeartbeats 8000000 in
set_option maxRecDepth 100000 in
theorem saplingref13_Mean.calls (k : Nat) : ∀ (a0_0 : Int) (a0_1 : ByteArray) (A0_2 : Option Addr) (c0_2 : Nat) (l0_2 : List (S84)) (A1 : Option Addr) (c1 : Nat) (l1 : List (S219)) (a2 : Int) (r1 : ByteArray) (r2 : Int) (r3 : Int) (w : World) (hr0_2 : Kd.C k84 w A0_2 l0_2.length l0_2) (hc0_2 : l0_2.length ≤ c0_2) (hr1 : Kd.C k219 w A1 l1.length l1) (hc1 : l1.length ≤ c1) (h : saplingref13_Mean.f k a0_0 a0_1 l0_2 l1 a2 = some (r1, r2, r3)),
    Calls Tryz.prog 84 #[.agg #[.int .i64 a0_0, .string a0_1, .slice A0_2 l0_2.length c0_2], .slice A1 l1.length c1, .int .i64 a2] w fun e w' => e = .returned (.tuple #[.string r1, .int .i64 r2, .int .i64 r3]) ∧ Below w.heap.size w w' := by
  induction k using Nat.strongRecOn with
  | _ k ih =>
  intro a0_0 a0_1 A0_2 c0_2 l0_2 A1 c1 l1 a2 r1 r2 r3 w hr0_2 hc0_2 hr1 hc1 h
  cases k with
  | zero => exact absurd h (by simp [saplingref13_Mean.f])
  | succ k =>
  simp only [saplingref13_Mean.f] at h
  have hu84 := Tryz.underlying84
  have hu219 := Tryz.underlying219
  have HR0_2 := Aside0.mk hr0_2
  have HC0_2 := Aside0.mk hc0_2
  clear hr0_2 hc0_2
  have HR1 := Aside0.mk hr1
  have HC1 := Aside0.mk hc1
  clear hr1 hc1
  have HB := Aside0.mk (Below.refl w.heap.size w)
  have H : (if a2 = 1000 then (some ((⟨#[]⟩ : ByteArray), a2, 52)) else (if a0_0 = 1 then (saplingref13_Mean.j3 k (wrap64 (a2 + 1)) a0_1 0) else (if a0_0 = 2 then (saplingref13_Mean.l0 k l1 (wrap64 (a2 + 1)) (⟨#[]⟩ : ByteArray) 51 (wrap64 ((l1.length : Int) - 1)) a0_0 a0_1 l0_2) else (if a0_0 = 3 then (saplingref13_Mean.l1 k l1 (wrap64 (a2 + 1)) (⟨#[]⟩ : ByteArray) 0 l0_2 (l0_2.length : Int) 0) else (if a0_0 = 4 then (if 0 < (l0_2.length : Int) then ((saplingref13_Mean.f k ((rd_T84 l0_2 0).f0) ((rd_T84 l0_2 0).f1) ((rd_T84 l0_2 0).f2) l1 (wrap64 (a2 + 1))).bind fun bt186 => (if bt186.2.2 = 0 then (if 1 < (l0_2.length : Int) then ((saplingref13_Mean.f k ((rd_T84 l0_2 1).f0) ((rd_T84 l0_2 1).f1) ((rd_T84 l0_2 1).f2) l1 bt186.2.1).bind fun bt190 => (if bt190.2.2 = 0 then (if bt186.1.toList = bt190.1.toList then (if 2 < (l0_2.length : Int) then ((saplingref13_Mean.f k ((rd_T84 l0_2 2).f0) ((rd_T84 l0_2 2).f1) ((rd_T84 l0_2 2).f2) l1 bt190.2.1).bind fun bt194 => (saplingref13_Mean.j3 k bt194.2.1 bt194.1 bt194.2.2)) else (none)) else (if 3 < (l0_2.length : Int) then ((saplingref13_Mean.f k ((rd_T84 l0_2 3).f0) ((rd_T84 l0_2 3).f1) ((rd_T84 l0_2 3).f2) l1 bt190.2.1).bind fun bt198 => (saplingref13_Mean.j3 k bt198.2.1 bt198.1 bt198.2.2)) else (none))) else (some ((⟨#[]⟩ : ByteArray), bt190.2.1, bt190.2.2)))) else (none)) else (some ((⟨#[]⟩ : ByteArray), bt186.2.1, bt186.2.2)))) else (none)) else (if a0_0 = 5 then (if 0 < (l0_2.length : Int) then ((saplingref13_Mean.f k ((rd_T84 l0_2 0).f0) ((rd_T84 l0_2 0).f1) ((rd_T84 l0_2 0).f2) l1 (wrap64 (a2 + 1))).bind fun bt202 => (if bt202.2.2 = 0 then ((some (([] : List (S219)) : List (S219))).bind fun y205 => (if y205.length + l1.length < 4398046511104 then ((some (y205 ++ l1 : List (S219))).bind fun y208 => ((some (([(⟨a0_1, bt202.1⟩ : S219)] : List (S219)) : List (S219))).bind fun y211 => (if y208.length + y211.length < 4398046511104 then (if 1 < (l0_2.length : Int) then ((saplingref13_Mean.f k ((rd_T84 l0_2 1).f0) ((rd_T84 l0_2 1).f1) ((rd_T84 l0_2 1).f2) (y208 ++ y211) bt202.2.1).bind fun bt218 => (saplingref13_Mean.j3 k bt218.2.1 bt218.1 bt218.2.2)) else (none)) else (none)))) else (none))) else (some ((⟨#[]⟩ : ByteArray), bt202.2.1, bt202.2.2)))) else (none)) else (saplingref13_Mean.j3 k (wrap64 (a2 + 1)) (⟨#[]⟩ : ByteArray) 0))))))) = some (r1, r2, r3) := h
  clear h
  by_cases c4 : a2 = 1000
  · rw [if_pos c4] at H
    have c4b0 : (a2 == 1000) = true := beq_iff_eq.mpr c4
    have c4b1 : (a2 != 1000) = false := bne_eq_false_iff_eq.mpr c4
    clear c4
    simp only [Option.some.injEq, Prod.mk.injEq] at H
    obtain ⟨rfl, rfl, rfl⟩ := H
    go_enter Tryz.func84, Tryz.ntmps84
    go_wp2_with (first | ((with_reducible refine gate_dst (N := 3) rfl ?_); refine box_event ?hg (N := 3) ?hd (cs := #[.int .i64 a0_0, .string a0_1, .slice A0_2 l0_2.length c0_2]) (t := 84) ?hr ?_; (case hd => rfl); (case hg => rfl); (case hr => first | (go_simp; done) | (go_simp; rfl)); intro gb177 hg w5 hbox hb; have n0_ := Aside0.mk (below_step (by repeat (first | (with_reducible first | exact HB.out | apply below_alloc | apply pw_below_drewN | apply below_drew1) | exact HB.out)) hb); have n1_ := Aside0.mk (hbox); have n2_ := Aside0.mk ((by rw [hg]; exact (below_size (by repeat (first | (with_reducible first | exact HB.out | apply below_alloc | apply pw_below_drewN | apply below_drew1) | exact HB.out))) : w.heap.size ≤ gb177)); have n3_ := Aside0.mk ((by rw [hg]; exact (below_size (by repeat (first | (with_reducible first | exact HB.out | apply below_alloc | apply pw_below_drewN | apply below_drew1) | exact HB.out))) : w.heap.size ≤ gb177)); clear HB; have HB := n0_; have BK177 := n1_; have GW177 := n2_; have GE177 := n3_; clear n0_ n1_ n2_ n3_; clear hb hbox hg))
    go_ret3
    exact ⟨by first | rfl | (simp [errW_none, errW_some] <;> rfl) | (simp [*, errW_none, errW_some] <;> rfl), by repeat (first | (with_reducible first | exact HB.out | apply below_alloc | apply pw_below_drewN | apply below_drew1 | refine below_set ?_ GE177.out) | exact HB.out)⟩
  · rw [if_neg c4] at H
    have c4b0 : (a2 == 1000) = false := beq_eq_false_iff_ne.mpr c4
    have c4b1 : (a2 != 1000) = true := bne_iff_ne.mpr c4
    have HC6 := Aside0.mk H
    clear H
    go_enter Tryz.func84, Tryz.ntmps84
    go_upto_block 0 with (first | ((with_reducible refine gate_dst (N := 3) rfl ?_); refine box_event ?hg (N := 3) ?hd (cs := #[.int .i64 a0_0, .string a0_1, .slice A0_2 l0_2.length c0_2]) (t := 84) ?hr ?_; (case hd => rfl); (case hg => rfl); (case hr => first | (go_simp; done) | (go_simp; rfl)); intro gb177 hg w7 hbox hb; have n0_ := Aside0.mk (below_step (by repeat (first | (with_reducible first | exact HB.out | apply below_alloc | apply pw_below_drewN | apply below_drew1) | exact HB.out)) hb); have n1_ := Aside0.mk (hbox); have n2_ := Aside0.mk ((by rw [hg]; exact (below_size (by repeat (first | (with_reducible first | exact HB.out | apply below_alloc | apply pw_below_drewN | apply below_drew1) | exact HB.out))) : w.heap.size ≤ gb177)); have n3_ := Aside0.mk ((by rw [hg]; exact (below_size (by repeat (first | (with_reducible first | exact HB.out | apply below_alloc | apply pw_below_drewN | apply below_drew1) | exact HB.out))) : w.heap.size ≤ gb177)); clear HB; have HB := n0_; have BK177 := n1_; have GW177 := n2_; have GE177 := n3_; clear n0_ n1_ n2_ n3_; clear hb hbox hg; have hcz8_0 : w7.cell? ⟨gb177, 0, none⟩ = some (.int .i64 a0_0) := (blk_cell BK177.out 0).trans rfl; have hcz8_1 : w7.cell? ⟨gb177, 1, none⟩ = some (.string a0_1) := (blk_cell BK177.out 1).trans rfl; have hcz8_2 : w7.cell? ⟨gb177, 2, none⟩ = some (.slice A0_2 l0_2.length c0_2) := (blk_cell BK177.out 2).trans rfl; have hfz8_0 := blk_frozen BK177.out 0; have hfz8_1 := blk_frozen BK177.out 1; have hfz8_2 := blk_frozen BK177.out 2))
    (try simp only [Act.put, List.setIfInBounds_toArray, List.set_cons_zero, List.set_cons_succ])
    go_cut [2, 9, 10] (fun v2 v9 v10 wc => ∃ (kq : Nat) (x2_5 : Int) (x9_5 : ByteArray) (x10_5 : Int), v2 = .int .i64 x2_5 ∧ v9 = .string x9_5 ∧ v10 = .int .i64 x10_5 ∧ Aside0 (saplingref13_Mean.j3 kq x2_5 x9_5 x10_5 = some (r1, r2, r3)) ∧ Aside0 (kq ≤ k) ∧ Aside0 (Below w.heap.size w wc))
    case first =>
      have H := HC6.out
      clear HC6
      by_cases c9 : a0_0 = 1
      · rw [if_pos c9] at H
        have c9b0 : (a0_0 == 1) = true := beq_iff_eq.mpr c9
        have c9b1 : (a0_0 != 1) = false := bne_eq_false_iff_eq.mpr c9
        clear c9
        (first | rw [c9b0] | (simp only [i64_w, i32_w]; rw [c9b0]) | skip)
        have H' := Aside0.mk H
        clear H
        have hcz10_0 : w7.cell? ⟨gb177, 0, none⟩ = some (.int .i64 a0_0) := (blk_cell BK177.out 0).trans rfl
        have hcz10_1 : w7.cell? ⟨gb177, 1, none⟩ = some (.string a0_1) := (blk_cell BK177.out 1).trans rfl
        have hcz10_2 : w7.cell? ⟨gb177, 2, none⟩ = some (.slice A0_2 l0_2.length c0_2) := (blk_cell BK177.out 2).trans rfl
        have hfz10_0 := blk_frozen BK177.out 0
        have hfz10_1 := blk_frozen BK177.out 1
        have hfz10_2 := blk_frozen BK177.out 2
        go_wp2
        go_meet
        case rel => exact ⟨_, (wrap64 (a2 + 1)), (a0_1), (0), (by first | rfl | (simp; done) | (simp [*]; done) | (have e_ : ∀ l : List UInt8, (l != []) = !l.isEmpty := (fun l => by cases l <;> rfl); simp [e_]; done)), (by first | rfl | (simp; done) | (simp [*]; done) | (have e_ : ∀ l : List UInt8, (l != []) = !l.isEmpty := (fun l => by cases l <;> rfl); simp [e_]; done)), (by first | rfl | (simp; done) | (simp [*]; done) | (have e_ : ∀ l : List UInt8, (l != []) = !l.isEmpty := (fun l => by cases l <;> rfl); simp [e_]; done)), H', ⟨by first | omega | exact Nat.le_refl _⟩, ⟨by repeat (first | (with_reducible first | exact HB.out | apply below_alloc | apply pw_below_drewN | apply below_drew1 | refine below_set ?_ GE177.out) | exact HB.out)⟩⟩
      · rw [if_neg c9] at H
        have c9b0 : (a0_0 == 1) = false := beq_eq_false_iff_ne.mpr c9
        have c9b1 : (a0_0 != 1) = true := bne_iff_ne.mpr c9
        (first | rw [c9b0] | (simp only [i64_w, i32_w]; rw [c9b0]) | skip)
        by_cases c11 : a0_0 = 2
        · rw [if_pos c11] at H
          have c11b0 : (a0_0 == 2) = true := beq_iff_eq.mpr c11
          have c11b1 : (a0_0 != 2) = false := bne_eq_false_iff_eq.mpr c11
          clear c11
          have H' := Aside0.mk H
          clear H
          go_wp2
          go_loopg [9, 10, 11] k (fun kq v9 v10 v11 w' => ∃ (x9_1 : ByteArray) (x10_1 : Int) (x11_1 : Int), v9 = .string x9_1 ∧ v10 = .int .i64 x10_1 ∧ v11 = .int .i64 x11_1 ∧ Aside0 (saplingref13_Mean.l0 kq l1 (wrap64 (a2 + 1)) x9_1 x10_1 x11_1 a0_0 a0_1 l0_2 = some (r1, r2, r3)) ∧ Aside0 (kq ≤ k) ∧ Aside0 (w'.heap[gb177]? = some (.cells #[.int .i64 a0_0, .string a0_1, (.slice A0_2 l0_2.length c0_2)] 84 (0, 0))) ∧ Aside0 (Below w.heap.size w w'))
          case atStart => exact ⟨((⟨#[]⟩ : ByteArray)), (51), (wrap64 ((l1.length : Int) - 1)), (by first | rfl | (simp; done) | (simp [*]; done) | (have e_ : ∀ l : List UInt8, (l != []) = !l.isEmpty := (fun l => by cases l <;> rfl); simp [e_]; done)), (by first | rfl | (simp; done) | (simp [*]; done) | (have e_ : ∀ l : List UInt8, (l != []) = !l.isEmpty := (fun l => by cases l <;> rfl); simp [e_]; done)), (by first | rfl | (simp; done) | (simp [*]; done) | (have e_ : ∀ l : List UInt8, (l != []) = !l.isEmpty := (fun l => by cases l <;> rfl); simp [e_]; done)), H', ⟨Nat.le_refl _⟩, ⟨by (with_reducible repeat (first | refine blk_drewN ?_ _ | refine blk_drew ?_ | refine blk_alloc ?_ _)); exact BK177.out⟩, ⟨by repeat (first | (with_reducible first | exact HB.out | apply below_alloc | apply pw_below_drewN | apply below_drew1 | refine below_set ?_ GE177.out) | exact HB.out)⟩⟩
          case round =>
            clear H'
            try clear c1
            try clear p2
            try clear c4
            try clear c4b0
            try clear c4b1
            try clear p6
            try clear c8
            try clear c9
            try clear c9b0
            try clear c9b1
            try clear c11
            try clear c11b0
            try clear c11b1
            try clear hcz10_0
            try clear hcz10_1
            try clear hcz10_2
            try clear hcz8_0
            try clear hcz8_1
            try clear hcz8_2
            try clear hfz10_0
            try clear hfz10_1
            try clear hfz10_2
            try clear hfz8_0
            try clear hfz8_1
            try clear hfz8_2
            obtain ⟨x9_1, x10_1, x11_1, rfl, rfl, rfl, HA, HK1, BK177, HB⟩ := hrel
            cases gk with
            | zero => exact absurd HA.out (by simp [saplingref13_Mean.l0])
            | succ k1 =>
              have H := HA.out
              clear HA
              simp only [saplingref13_Mean.l0] at H
              have HC12 := Aside0.mk H
              clear H
              go_upto_region 12 with (fail)
              go_cut [46] (fun v46 wc => ∃ (kq : Nat) (x46_11 : Bool), v46 = .bool x46_11 ∧ Aside0 (saplingref13_Mean.j1 kq l1 (wrap64 (a2 + 1)) x9_1 x10_1 x11_1 x46_11 a0_0 a0_1 l0_2 = some (r1, r2, r3)) ∧ Aside0 (kq ≤ k1) ∧ Aside0 (wc.heap[gb177]? = some (.cells #[.int .i64 a0_0, .string a0_1, (.slice A0_2 l0_2.length c0_2)] 84 (0, 0))) ∧ Aside0 (Below w.heap.size w wc))
              case first =>
                have H := HC12.out
                clear HC12
                by_cases c13 : x11_1 ≥ 0
                · rw [if_pos c13] at H
                  have c13b0 : decide (0 ≤ x11_1) = true := decide_eq_true c13
                  clear c13
                  (first | rw [c13b0] | (simp only [i64_w, i32_w]; rw [c13b0]) | skip)
                  have H' := Aside0.mk H
                  clear H
                  go_wp2
                  go_meet
                  case rel => exact ⟨_, ((x10_1 != 0)), (by first | rfl | (simp; done) | (simp [*]; done) | (have e_ : ∀ l : List UInt8, (l != []) = !l.isEmpty := (fun l => by cases l <;> rfl); simp [e_]; done)), H', ⟨by have := HK1.out; first | omega | exact Nat.le_refl _⟩, ⟨by (with_reducible repeat (first | refine blk_drewN ?_ _ | refine blk_drew ?_ | refine blk_alloc ?_ _)); exact BK177.out⟩, ⟨by repeat (first | (with_reducible first | exact HB.out | apply below_alloc | apply pw_below_drewN | apply below_drew1 | refine below_set ?_ GE177.out) | exact HB.out)⟩⟩
                · rw [if_neg c13] at H
                  have c13b0 : decide (0 ≤ x11_1) = false := decide_eq_false c13
                  clear c13
                  (first | rw [c13b0] | (simp only [i64_w, i32_w]; rw [c13b0]) | skip)
                  have H' := Aside0.mk H
                  clear H
                  go_wp2
                  go_meet
                  case rel => exact ⟨_, (false), (by first | rfl | (simp; done) | (simp [*]; done) | (have e_ : ∀ l : List UInt8, (l != []) = !l.isEmpty := (fun l => by cases l <;> rfl); simp [e_]; done)), H', ⟨by have := HK1.out; first | omega | exact Nat.le_refl _⟩, ⟨by (with_reducible repeat (first | refine blk_drewN ?_ _ | refine blk_drew ?_ | refine blk_alloc ?_ _)); exact BK177.out⟩, ⟨by repeat (first | (with_reducible first | exact HB.out | apply below_alloc | apply pw_below_drewN | apply below_drew1 | refine below_set ?_ GE177.out) | exact HB.out)⟩⟩
              case rest =>
                clear HC12
                try clear c1
                try clear p2
                try clear c4
                try clear c4b0
                try clear c4b1
                try clear p6
                try clear c8
                try clear c9
                try clear c9b0
                try clear c9b1
                try clear c11
                try clear c11b0
                try clear c11b1
                try clear c13
                try clear c13b0
                try clear hcz10_0
                try clear hcz10_1
                try clear hcz10_2
                try clear hcz8_0
                try clear hcz8_1
                try clear hcz8_2
                try clear hfz10_0
                try clear hfz10_1
                try clear hfz10_2
                try clear hfz8_0
                try clear hfz8_1
                try clear hfz8_2
                try clear p2
                try clear p6
                obtain ⟨kq, x46_11, rfl, HA, HJ11, BK177, HB⟩ := hcut
                cases kq with
                | zero => exact absurd HA.out (by simp [saplingref13_Mean.j1])
                | succ kj11 =>
                  have H := HA.out
                  clear HA
                  simp only [saplingref13_Mean.j1] at H
                  by_cases c14 : x46_11 = true
                  · subst c14
                    have H1 : (if 0 ≤ x11_1 then (if x11_1 < (l1.length : Int) then (if ((rd_T219 l1 x11_1).f0).toList = a0_1.toList then (saplingref13_Mean.l0 kj11 l1 (wrap64 (a2 + 1)) ((rd_T219 l1 x11_1).f1) 0 (wrap64 (x11_1 - 1)) a0_0 a0_1 l0_2) else (saplingref13_Mean.l0 kj11 l1 (wrap64 (a2 + 1)) x9_1 x10_1 (wrap64 (x11_1 - 1)) a0_0 a0_1 l0_2)) else (none)) else (none)) = some (r1, r2, r3) := by rw [if_pos rfl] at H; exact H
                    clear H
                    have H := H1
                    clear H1
                    by_cases c15 : 0 ≤ x11_1
                    · rw [if_pos c15] at H
                      have c15b0 : decide (0 ≤ x11_1) = true := decide_eq_true c15
                      clear c15
                      by_cases c16 : x11_1 < (l1.length : Int)
                      · rw [if_pos c16] at H
                        have c16b0 : decide (x11_1 < (l1.length : Int)) = true := decide_eq_true c16
                        clear c16
                        by_cases c17 : ((rd_T219 l1 x11_1).f0).toList = a0_1.toList
                        · rw [if_pos c17] at H
                          have c17b0 : (((rd_T219 l1 x11_1).f0).toList == a0_1.toList) = true := beq_iff_eq.mpr c17
                          have c17b1 : (((rd_T219 l1 x11_1).f0).toList != a0_1.toList) = false := bne_eq_false_iff_eq.mpr c17
                          clear c17
                          have H' := Aside0.mk H
                          clear H
                          try go_wp2
                          have n0_ := Aside0.mk (blk_drew BK177.out)
                          have n1_ := Aside0.mk (below_drew1 HB.out)
                          clear BK177
                          clear HB
                          have BK177 := n0_
                          have HB := n1_
                          clear n0_ n1_
                          have p178 : 0 ≤ (x11_1 : Int) := of_decide_eq_true (by first | (with_reducible assumption) | assumption)
                          have q178 : x11_1 < (l1.length : Int) := of_decide_eq_true (by first | (with_reducible assumption) | assumption)
                          obtain ⟨ad178, e178, hx178_0, hx178_1⟩ := at_T219 HR1.out x11_1 p178 q178
                          have hw178_1 := hx178_1
                          have hw178_0 := hx178_0
                          cases e178
                          replace hx178_0 := (HB.out.cell (World.block_lt_of_cell? w _ hx178_0)).trans hx178_0
                          replace hx178_1 := (HB.out.cell (World.block_lt_of_cell? w _ hx178_1)).trans hx178_1
                          replace p178 := eq_true p178
                          replace q178 := eq_true q178
                          refine start_ (n := 8) (S := fun w' => w'.cell? ⟨gb177, 0, none⟩ = some (.int .i64 a0_0) ∧ w'.cell? ⟨gb177, 1, none⟩ = some (.string a0_1) ∧ w'.cell? ⟨gb177, 2, none⟩ = some (.slice A0_2 l0_2.length c0_2) ∧ w'.cell? (ad178.add ((x11_1).toNat * 2)) = some (.string ((rd_T219 l1 x11_1).f0)) ∧ w'.cell? ⟨(ad178.add ((x11_1).toNat * 2)).block, (ad178.add ((x11_1).toNat * 2)).off + 1, none⟩ = some (.string ((rd_T219 l1 x11_1).f1))) (ds := []) #[false, false, false, false, false, false, false, false] (by kernel_rfl) rfl rfl ⟨(blk_cell BK177.out 0).trans rfl, (blk_cell BK177.out 1).trans rfl, (blk_cell BK177.out 2).trans rfl, ((HB.out.cell (World.block_lt_of_cell? w _ hw178_0)).trans hw178_0), ((HB.out.cell (World.block_lt_of_cell? w _ hw178_1)).trans hw178_1)⟩ (fun hHeld => ?_); refine with_tabW saplingref13_Mean.tab14 saplingref13_Mean.bits14 (fun HT_ HW_ => ?_)
                          generalize wc.drew = w18 at BK177 HB hx178_0 hx178_1 hHeld ⊢
                          refine pure_ (i := 0) (N := some 49) (v := ?_) (a' := ?_) #[true, false, false, false, false, false, false, false] rfl rfl (any_of HT_.out (by kernel_rfl)) (fun _ _ _ h => h) (Or.inl ⟨by rfl, ?_⟩) ?_ ?_
                          rotate_left
                          · intro w'
                            go_simp
                            with_reducible rfl
                          rotate_left
                          · simp only [Act.put, List.setIfInBounds_toArray, List.set_cons_zero, List.set_cons_succ, i64_w, i32_w]
                            rfl
                          refine pure_ (i := 1) (N := some 50) (v := ?_) (a' := ?_) #[true, true, false, false, false, false, false, false] rfl rfl (any_of HT_.out (by kernel_rfl)) (fun _ _ _ h => h) (Or.inl ⟨by rfl, ?_⟩) ?_ ?_
                          rotate_left
                          · intro w'
                            go_simp
                            with_reducible rfl
                          rotate_left
                          · simp only [Act.put, List.setIfInBounds_toArray, List.set_cons_zero, List.set_cons_succ, i64_w, i32_w]
                            rfl
                          refine pure_ (i := 2) (N := some 51) (v := ?_) (a' := ?_) #[true, true, true, false, false, false, false, false] rfl rfl (any_of HT_.out (by kernel_rfl)) (fun _ _ _ h => h) (Or.inl ⟨by rfl, ?_⟩) ?_ ?_
                          rotate_left
                          · intro w'
                            go_simp
                            with_reducible rfl
                          rotate_left
                          · simp only [Act.put, List.setIfInBounds_toArray, List.set_cons_zero, List.set_cons_succ, i64_w, i32_w]
                            rfl
                          refine pure_ (i := 3) (N := some 52) (v := ?_) (a' := ?_) #[true, true, true, true, false, false, false, false] rfl rfl (any_of HT_.out (by kernel_rfl)) (fun _ _ _ h => h) (Or.inl ⟨by rfl, ?_⟩) ?_ ?_
                          rotate_left
                          · intro w'
                            go_simp
                            with_reducible rfl
                          rotate_left
                          · simp only [Act.put, List.setIfInBounds_toArray, List.set_cons_zero, List.set_cons_succ, i64_w, i32_w]
                            rfl
                          refine pure_ (i := 5) (N := some 54) (v := ?_) (a' := ?_) #[true, true, true, true, false, true, false, false] rfl rfl (any_of HT_.out (by kernel_rfl)) (fun _ _ _ h => h) (Or.inl ⟨by rfl, ?_⟩) ?_ ?_
                          rotate_left
                          · intro w'
                            go_simp
                            with_reducible rfl
                          rotate_left
                          · simp only [Act.put, List.setIfInBounds_toArray, List.set_cons_zero, List.set_cons_succ, i64_w, i32_w]
                            rfl
                          refine take_ (i := 4) (N := some 53) (v := ?_) (a' := ?_) #[true, true, true, true, true, true, false, false] rfl rfl (take_ofW HT_.out HW_.out (by kernel_rfl)) (fun _ _ _ h => h) (Or.inl ⟨by rfl, ?_⟩) hHeld ?_ ?_
                          rotate_left
                          · rintro w' ⟨s0, s1, s2, s3, s4⟩
                            go_simp
                            with_reducible rfl
                          rotate_left
                          · simp only [Act.put, List.setIfInBounds_toArray, List.set_cons_zero, List.set_cons_succ, i64_w, i32_w]
                            rfl
                          refine take_ (i := 6) (N := some 55) (v := ?_) (a' := ?_) #[true, true, true, true, true, true, true, false] rfl rfl (take_ofW HT_.out HW_.out (by kernel_rfl)) (fun _ _ _ h => h) (Or.inl ⟨by rfl, ?_⟩) hHeld ?_ ?_
                          rotate_left
                          · rintro w' ⟨s0, s1, s2, s3, s4⟩
                            go_simp
                            with_reducible rfl
                          rotate_left
                          · simp only [Act.put, List.setIfInBounds_toArray, List.set_cons_zero, List.set_cons_succ, i64_w, i32_w]
                            rfl
                          refine pure_ (i := 7) (N := some 56) (v := ?_) (a' := ?_) #[true, true, true, true, true, true, true, true] rfl rfl (any_of HT_.out (by kernel_rfl)) (fun _ _ _ h => h) (Or.inl ⟨by rfl, ?_⟩) ?_ ?_
                          rotate_left
                          · intro w'
                            go_simp
                            with_reducible rfl
                          rotate_left
                          · simp only [Act.put, List.setIfInBounds_toArray, List.set_cons_zero, List.set_cons_succ, i64_w, i32_w]
                            rfl
                          refine done_ (done_of HT_.out (by kernel_rfl)) ?_
                          have p179 : 0 ≤ (x11_1 : Int) := of_decide_eq_true (by first | (with_reducible assumption) | assumption)
                          have q179 : x11_1 < (l1.length : Int) := of_decide_eq_true (by first | (with_reducible assumption) | assumption)
                          obtain ⟨ad179, e179, hx179_0, hx179_1⟩ := at_T219 HR1.out x11_1 p179 q179
                          obtain rfl : ad178 = ad179 := (by injection e179)
                          replace hx179_0 := (HB.out.cell (World.block_lt_of_cell? w _ hx179_0)).trans hx179_0
                          replace hx179_1 := (HB.out.cell (World.block_lt_of_cell? w _ hx179_1)).trans hx179_1
                          replace p179 := eq_true p179
                          replace q179 := eq_true q179
                          try go_wp2
                          go_roundg kj11
                          case measure => have := HK1.out; have := HJ11.out; omega
                          case rel => exact ⟨((rd_T219 l1 x11_1).f1), (0), (wrap64 (x11_1 - 1)), (by first | rfl | (simp; done) | (simp [*]; done) | (have e_ : ∀ l : List UInt8, (l != []) = !l.isEmpty := (fun l => by cases l <;> rfl); simp [e_]; done)), (by first | rfl | (simp; done) | (simp [*]; done) | (have e_ : ∀ l : List UInt8, (l != []) = !l.isEmpty := (fun l => by cases l <;> rfl); simp [e_]; done)), (by first | rfl | (simp; done) | (simp [*]; done) | (have e_ : ∀ l : List UInt8, (l != []) = !l.isEmpty := (fun l => by cases l <;> rfl); simp [e_]; done)), H', ⟨by have := HK1.out; have := HJ11.out; omega⟩, ⟨by (with_reducible repeat (first | refine blk_drewN ?_ _ | refine blk_drew ?_ | refine blk_alloc ?_ _)); exact BK177.out⟩, ⟨by repeat (first | (with_reducible first | exact HB.out | apply below_alloc | apply pw_below_drewN | apply below_drew1 | refine below_set ?_ GE177.out) | exact HB.out)⟩⟩
                        · rw [if_neg c17] at H
                          have c17b0 : (((rd_T219 l1 x11_1).f0).toList == a0_1.toList) = false := beq_eq_false_iff_ne.mpr c17
                          have c17b1 : (((rd_T219 l1 x11_1).f0).toList != a0_1.toList) = true := bne_iff_ne.mpr c17
                          have H' := Aside0.mk H
                          clear H
                          try go_wp2
                          have n0_ := Aside0.mk (blk_drew BK177.out)
                          have n1_ := Aside0.mk (below_drew1 HB.out)
                          clear BK177
                          clear HB
                          have BK177 := n0_
                          have HB := n1_
                          clear n0_ n1_
                          have p178 : 0 ≤ (x11_1 : Int) := of_decide_eq_true (by first | (with_reducible assumption) | assumption)
                          have q178 : x11_1 < (l1.length : Int) := of_decide_eq_true (by first | (with_reducible assumption) | assumption)
                          obtain ⟨ad178, e178, hx178_0, hx178_1⟩ := at_T219 HR1.out x11_1 p178 q178
                          have hw178_1 := hx178_1
                          have hw178_0 := hx178_0
                          cases e178
                          replace hx178_0 := (HB.out.cell (World.block_lt_of_cell? w _ hx178_0)).trans hx178_0
                          replace hx178_1 := (HB.out.cell (World.block_lt_of_cell? w _ hx178_1)).trans hx178_1
                          replace p178 := eq_true p178
                          replace q178 := eq_true q178
                          refine start_ (n := 8) (S := fun w' => w'.cell? ⟨gb177, 0, none⟩ = some (.int .i64 a0_0) ∧ w'.cell? ⟨gb177, 1, none⟩ = some (.string a0_1) ∧ w'.cell? ⟨gb177, 2, none⟩ = some (.slice A0_2 l0_2.length c0_2) ∧ w'.cell? (ad178.add ((x11_1).toNat * 2)) = some (.string ((rd_T219 l1 x11_1).f0)) ∧ w'.cell? ⟨(ad178.add ((x11_1).toNat * 2)).block, (ad178.add ((x11_1).toNat * 2)).off + 1, none⟩ = some (.string ((rd_T219 l1 x11_1).f1))) (ds := []) #[false, false, false, false, false, false, false, false] (by kernel_rfl) rfl rfl ⟨(blk_cell BK177.out 0).trans rfl, (blk_cell BK177.out 1).trans rfl, (blk_cell BK177.out 2).trans rfl, ((HB.out.cell (World.block_lt_of_cell? w _ hw178_0)).trans hw178_0), ((HB.out.cell (World.block_lt_of_cell? w _ hw178_1)).trans hw178_1)⟩ (fun hHeld => ?_); refine with_tabW saplingref13_Mean.tab14 saplingref13_Mean.bits14 (fun HT_ HW_ => ?_)
                          generalize wc.drew = w19 at BK177 HB hx178_0 hx178_1 hHeld ⊢
                          refine pure_ (i := 0) (N := some 49) (v := ?_) (a' := ?_) #[true, false, false, false, false, false, false, false] rfl rfl (any_of HT_.out (by kernel_rfl)) (fun _ _ _ h => h) (Or.inl ⟨by rfl, ?_⟩) ?_ ?_
                          rotate_left
                          · intro w'
                            go_simp
                            with_reducible rfl
                          rotate_left
                          · simp only [Act.put, List.setIfInBounds_toArray, List.set_cons_zero, List.set_cons_succ, i64_w, i32_w]
                            rfl
                          refine pure_ (i := 1) (N := some 50) (v := ?_) (a' := ?_) #[true, true, false, false, false, false, false, false] rfl rfl (any_of HT_.out (by kernel_rfl)) (fun _ _ _ h => h) (Or.inl ⟨by rfl, ?_⟩) ?_ ?_
                          rotate_left
                          · intro w'
                            go_simp
                            with_reducible rfl
                          rotate_left
                          · simp only [Act.put, List.setIfInBounds_toArray, List.set_cons_zero, List.set_cons_succ, i64_w, i32_w]
                            rfl
                          refine pure_ (i := 2) (N := some 51) (v := ?_) (a' := ?_) #[true, true, true, false, false, false, false, false] rfl rfl (any_of HT_.out (by kernel_rfl)) (fun _ _ _ h => h) (Or.inl ⟨by rfl, ?_⟩) ?_ ?_
                          rotate_left
                          · intro w'
                            go_simp
                            with_reducible rfl
                          rotate_left
                          · simp only [Act.put, List.setIfInBounds_toArray, List.set_cons_zero, List.set_cons_succ, i64_w, i32_w]
                            rfl
                          refine pure_ (i := 3) (N := some 52) (v := ?_) (a' := ?_) #[true, true, true, true, false, false, false, false] rfl rfl (any_of HT_.out (by kernel_rfl)) (fun _ _ _ h => h) (Or.inl ⟨by rfl, ?_⟩) ?_ ?_
                          rotate_left
                          · intro w'
                            go_simp
                            with_reducible rfl
                          rotate_left
                          · simp only [Act.put, List.setIfInBounds_toArray, List.set_cons_zero, List.set_cons_succ, i64_w, i32_w]
                            rfl
                          refine pure_ (i := 5) (N := some 54) (v := ?_) (a' := ?_) #[true, true, true, true, false, true, false, false] rfl rfl (any_of HT_.out (by kernel_rfl)) (fun _ _ _ h => h) (Or.inl ⟨by rfl, ?_⟩) ?_ ?_
                          rotate_left
                          · intro w'
                            go_simp
                            with_reducible rfl
                          rotate_left
                          · simp only [Act.put, List.setIfInBounds_toArray, List.set_cons_zero, List.set_cons_succ, i64_w, i32_w]
                            rfl
                          refine take_ (i := 4) (N := some 53) (v := ?_) (a' := ?_) #[true, true, true, true, true, true, false, false] rfl rfl (take_ofW HT_.out HW_.out (by kernel_rfl)) (fun _ _ _ h => h) (Or.inl ⟨by rfl, ?_⟩) hHeld ?_ ?_
                          rotate_left
                          · rintro w' ⟨s0, s1, s2, s3, s4⟩
                            go_simp
                            with_reducible rfl
                          rotate_left
                          · simp only [Act.put, List.setIfInBounds_toArray, List.set_cons_zero, List.set_cons_succ, i64_w, i32_w]
                            rfl
                          refine take_ (i := 6) (N := some 55) (v := ?_) (a' := ?_) #[true, true, true, true, true, true, true, false] rfl rfl (take_ofW HT_.out HW_.out (by kernel_rfl)) (fun _ _ _ h => h) (Or.inl ⟨by rfl, ?_⟩) hHeld ?_ ?_
                          rotate_left
                          · rintro w' ⟨s0, s1, s2, s3, s4⟩
                            go_simp
                            with_reducible rfl
                          rotate_left
                          · simp only [Act.put, List.setIfInBounds_toArray, List.set_cons_zero, List.set_cons_succ, i64_w, i32_w]
                            rfl
                          refine pure_ (i := 7) (N := some 56) (v := ?_) (a' := ?_) #[true, true, true, true, true, true, true, true] rfl rfl (any_of HT_.out (by kernel_rfl)) (fun _ _ _ h => h) (Or.inl ⟨by rfl, ?_⟩) ?_ ?_
                          rotate_left
                          · intro w'
                            go_simp
                            with_reducible rfl
                          rotate_left
                          · simp only [Act.put, List.setIfInBounds_toArray, List.set_cons_zero, List.set_cons_succ, i64_w, i32_w]
                            rfl
                          refine done_ (done_of HT_.out (by kernel_rfl)) ?_
                          try go_wp2
                          go_roundg kj11
                          case measure => have := HK1.out; have := HJ11.out; omega
                          case rel => exact ⟨(x9_1), (x10_1), (wrap64 (x11_1 - 1)), (by first | rfl | (simp; done) | (simp [*]; done) | (have e_ : ∀ l : List UInt8, (l != []) = !l.isEmpty := (fun l => by cases l <;> rfl); simp [e_]; done)), (by first | rfl | (simp; done) | (simp [*]; done) | (have e_ : ∀ l : List UInt8, (l != []) = !l.isEmpty := (fun l => by cases l <;> rfl); simp [e_]; done)), (by first | rfl | (simp; done) | (simp [*]; done) | (have e_ : ∀ l : List UInt8, (l != []) = !l.isEmpty := (fun l => by cases l <;> rfl); simp [e_]; done)), H', ⟨by have := HK1.out; have := HJ11.out; omega⟩, ⟨by (with_reducible repeat (first | refine blk_drewN ?_ _ | refine blk_drew ?_ | refine blk_alloc ?_ _)); exact BK177.out⟩, ⟨by repeat (first | (with_reducible first | exact HB.out | apply below_alloc | apply pw_below_drewN | apply below_drew1 | refine below_set ?_ GE177.out) | exact HB.out)⟩⟩
                      · rw [if_neg c16] at H
                        exact absurd H (by simp)
                    · rw [if_neg c15] at H
                      exact absurd H (by simp)
                  · replace c14 := Bool.eq_false_iff.mpr c14
                    subst c14
                    have H1 : (saplingref13_Mean.j3 kj11 (wrap64 (a2 + 1)) x9_1 x10_1) = some (r1, r2, r3) := by rw [if_neg (show ¬ (false = true) by decide)] at H; exact H
                    clear H
                    have H := H1
                    clear H1
                    have H' := Aside0.mk H
                    clear H
                    go_wp2
                    go_meet
                    case rel => exact ⟨_, ((wrap64 (a2 + 1))), (x9_1), (x10_1), (by first | rfl | (simp; done) | (simp [*]; done) | (have e_ : ∀ l : List UInt8, (l != []) = !l.isEmpty := (fun l => by cases l <;> rfl); simp [e_]; done)), (by first | rfl | (simp; done) | (simp [*]; done) | (have e_ : ∀ l : List UInt8, (l != []) = !l.isEmpty := (fun l => by cases l <;> rfl); simp [e_]; done)), (by first | rfl | (simp; done) | (simp [*]; done) | (have e_ : ∀ l : List UInt8, (l != []) = !l.isEmpty := (fun l => by cases l <;> rfl); simp [e_]; done)), H', ⟨by have := HK1.out; have := HJ11.out; first | omega | exact Nat.le_refl _⟩, ⟨by repeat (first | (with_reducible first | exact HB.out | apply below_alloc | apply pw_below_drewN | apply below_drew1 | refine below_set ?_ GE177.out) | exact HB.out)⟩⟩
        · rw [if_neg c11] at H
          have c11b0 : (a0_0 == 2) = false := beq_eq_false_iff_ne.mpr c11
          have c11b1 : (a0_0 != 2) = true := bne_iff_ne.mpr c11
          by_cases c20 : a0_0 = 3
          · rw [if_pos c20] at H
            have c20b0 : (a0_0 == 3) = true := beq_iff_eq.mpr c20
            have c20b1 : (a0_0 != 3) = false := bne_eq_false_iff_eq.mpr c20
            clear c20
            have H' := Aside0.mk H
            clear H
            have hcz21_0 : w7.cell? ⟨gb177, 0, none⟩ = some (.int .i64 a0_0) := (blk_cell BK177.out 0).trans rfl
            have hcz21_1 : w7.cell? ⟨gb177, 1, none⟩ = some (.string a0_1) := (blk_cell BK177.out 1).trans rfl
            have hcz21_2 : w7.cell? ⟨gb177, 2, none⟩ = some (.slice A0_2 l0_2.length c0_2) := (blk_cell BK177.out 2).trans rfl
            have hfz21_0 := blk_frozen BK177.out 0
            have hfz21_1 := blk_frozen BK177.out 1
            have hfz21_2 := blk_frozen BK177.out 2
            go_wp2
            go_loopg [2, 9, 10, 67] k (fun kq v2 v9 v10 v67 w' => ∃ (x2_1 : Int) (x9_1 : ByteArray) (x10_1 : Int) (x67_1 : Int), v2 = .int .i64 x2_1 ∧ v9 = .string x9_1 ∧ v10 = .int .i64 x10_1 ∧ v67 = .int .i64 x67_1 ∧ Aside0 (saplingref13_Mean.l1 kq l1 x2_1 x9_1 x10_1 l0_2 (l0_2.length : Int) x67_1 = some (r1, r2, r3)) ∧ Aside0 (kq ≤ k) ∧ Aside0 (w'.heap[gb177]? = some (.cells #[.int .i64 a0_0, .string a0_1, (.slice A0_2 l0_2.length c0_2)] 84 (0, 0))) ∧ Aside0 (Below w.heap.size w w'))
            case atStart => exact ⟨(wrap64 (a2 + 1)), ((⟨#[]⟩ : ByteArray)), (0), (0), (by first | rfl | (simp; done) | (simp [*]; done) | (have e_ : ∀ l : List UInt8, (l != []) = !l.isEmpty := (fun l => by cases l <;> rfl); simp [e_]; done)), (by first | rfl | (simp; done) | (simp [*]; done) | (have e_ : ∀ l : List UInt8, (l != []) = !l.isEmpty := (fun l => by cases l <;> rfl); simp [e_]; done)), (by first | rfl | (simp; done) | (simp [*]; done) | (have e_ : ∀ l : List UInt8, (l != []) = !l.isEmpty := (fun l => by cases l <;> rfl); simp [e_]; done)), (by first | rfl | (simp; done) | (simp [*]; done) | (have e_ : ∀ l : List UInt8, (l != []) = !l.isEmpty := (fun l => by cases l <;> rfl); simp [e_]; done)), H', ⟨Nat.le_refl _⟩, ⟨by (with_reducible repeat (first | refine blk_drewN ?_ _ | refine blk_drew ?_ | refine blk_alloc ?_ _)); exact BK177.out⟩, ⟨by repeat (first | (with_reducible first | exact HB.out | apply below_alloc | apply pw_below_drewN | apply below_drew1 | refine below_set ?_ GE177.out) | exact HB.out)⟩⟩
            case round =>
              clear H'
              try clear c1
              try clear p1
              try clear q1
              try clear hx1
              try clear c2
              try clear p2
              try clear c4
              try clear c4b0
              try clear c4b1
              try clear p6
              try clear c8
              try clear c9
              try clear c9b0
              try clear c9b1
              try clear c11
              try clear c11b0
              try clear c11b1
              try clear c13
              try clear c13b0
              try clear c14
              try clear c15
              try clear c15b0
              try clear c16
              try clear c16b0
              try clear c17
              try clear c17b0
              try clear c17b1
              try clear p17
              try clear q17
              try clear hx17
              try clear c20
              try clear c20b0
              try clear c20b1
              try clear hcz10_0
              try clear hcz10_1
              try clear hcz10_2
              try clear hcz21_0
              try clear hcz21_1
              try clear hcz21_2
              try clear hcz8_0
              try clear hcz8_1
              try clear hcz8_2
              try clear hfz10_0
              try clear hfz10_1
              try clear hfz10_2
              try clear hfz21_0
              try clear hfz21_1
              try clear hfz21_2
              try clear hfz8_0
              try clear hfz8_1
              try clear hfz8_2
              try clear hx178_0
              try clear hx178_1
              try clear hx179_0
              try clear hx179_1
              try clear p178
              try clear p179
              try clear p2
              try clear p6
              try clear q178
              try clear q179
              obtain ⟨x2_1, x9_1, x10_1, x67_1, rfl, rfl, rfl, rfl, HA, HK1, BK177, HB⟩ := hrel
              cases gk with
              | zero => exact absurd HA.out (by simp [saplingref13_Mean.l1])
              | succ k1 =>
                have H := HA.out
                clear HA
                simp only [saplingref13_Mean.l1] at H
                by_cases c22 : x67_1 < (l0_2.length : Int)
                · rw [if_pos c22] at H
                  have c22b0 : decide (x67_1 < (l0_2.length : Int)) = true := decide_eq_true c22
                  clear c22
                  by_cases c23 : 0 ≤ x67_1
                  · rw [if_pos c23] at H
                    have c23b0 : decide (0 ≤ x67_1) = true := decide_eq_true c23
                    clear c23
                    by_cases c24 : x67_1 < (l0_2.length : Int)
                    · rw [if_pos c24] at H
                      have c24b0 : decide (x67_1 < (l0_2.length : Int)) = true := decide_eq_true c24
                      clear c24
                      replace H := Option.bind_eq_some_iff.mp H
                      obtain ⟨⟨t182, t183, t184⟩, A250, H⟩ := H
                      replace H : (if t184 = 0 then (if x9_1.size + t182.size ≤ 9223372036854775807 then (saplingref13_Mean.l1 k1 l1 t183 (x9_1 ++ t182) t184 l0_2 (l0_2.length : Int) (wrap64 (x67_1 + 1))) else (none)) else (some ((⟨#[]⟩ : ByteArray), t183, t184))) = some (r1, r2, r3) := H
                      have A25 := Aside0.mk A250
                      clear A250
                      by_cases c26 : t184 = 0
                      · rw [if_pos c26] at H
                        have c26b0 : (t184 == 0) = true := beq_iff_eq.mpr c26
                        have c26b1 : (t184 != 0) = false := bne_eq_false_iff_eq.mpr c26
                        clear c26
                        by_cases c27 : x9_1.size + t182.size ≤ 9223372036854775807
                        · rw [if_pos c27] at H
                          have c27b0 := eq_true c27
                          have c27b1 : decide (x9_1.size + t182.size ≤ 9223372036854775807) = true := decide_eq_true c27
                          try have c27b2 : (9223372036854775807 < x9_1.size + t182.size) = False := eq_false (Nat.not_lt.2 c27)
                          have H' := Aside0.mk H
                          clear H
                          have p180 : 0 ≤ (x67_1 : Int) := of_decide_eq_true (by first | (with_reducible assumption) | assumption)
                          have q180 : x67_1 < (l0_2.length : Int) := of_decide_eq_true (by first | (with_reducible assumption) | assumption)
                          obtain ⟨ad180, A180_2, c180_2, e180, hx180_0, hx180_1, hx180_2, hl180_2, hi180_2⟩ := at_T84 HR0_2.out x67_1 p180 q180
                          cases e180
                          replace hx180_0 := (HB.out.cell (World.block_lt_of_cell? w _ hx180_0)).trans hx180_0
                          replace hx180_1 := (HB.out.cell (World.block_lt_of_cell? w _ hx180_1)).trans hx180_1
                          replace hx180_2 := (HB.out.cell (World.block_lt_of_cell? w _ hx180_2)).trans hx180_2
                          have HR180_2 := Aside0.mk hi180_2
                          have HC180_2 := Aside0.mk hl180_2
                          clear hi180_2 hl180_2
                          replace p180 := eq_true p180
                          replace q180 := eq_true q180
                          go_wp2_with (first | ((with_reducible refine gate_dst (N := 13) rfl ?_); refine box_event ?hg (N := 13) ?hd (cs := #[.int .i64 0, .string (⟨#[]⟩ : ByteArray), .slice none 0 0]) (t := 84) ?hr ?_; (case hd => rfl); (case hg => rfl); (case hr => first | (go_simp; done) | (go_simp; rfl)); intro gb181 hg w28 hbox hb; have n0_ := Aside0.mk (blk_below (g := gb177) (o := .cells #[.int .i64 a0_0, .string a0_1, .slice (some ad180) l0_2.length c0_2] 84 (0, 0)) (by (with_reducible repeat (first | refine blk_drewN ?_ _ | refine blk_drew ?_ | refine blk_alloc ?_ _)); exact BK177.out) hb); have n1_ := Aside0.mk (below_step (by repeat (first | (with_reducible first | exact HB.out | apply below_alloc | apply pw_below_drewN | apply below_drew1 | refine below_set ?_ GE177.out) | exact HB.out)) hb); have n2_ := Aside0.mk (hbox); have n3_ := Aside0.mk ((by rw [hg]; exact (below_size (by repeat (first | (with_reducible first | exact HB.out | apply below_alloc | apply pw_below_drewN | apply below_drew1 | refine below_set ?_ GE177.out) | exact HB.out))) : w.heap.size ≤ gb181)); have n4_ := Aside0.mk ((by rw [hg]; exact (below_size (by repeat (first | (with_reducible first | exact HB.out | apply below_alloc | apply pw_below_drewN | apply below_drew1 | refine below_set ?_ GE177.out) | exact HB.out))) : w.heap.size ≤ gb181)); have n5_ := Aside0.mk ((by rw [hg]; exact Nat.ne_of_lt (blk_lt (g := gb177) (o := .cells #[.int .i64 a0_0, .string a0_1, .slice (some ad180) l0_2.length c0_2] 84 (0, 0)) (by (with_reducible repeat (first | refine blk_drewN ?_ _ | refine blk_drew ?_ | refine blk_alloc ?_ _)); exact BK177.out)) : gb177 ≠ gb181)); have n6_ := Aside0.mk ((by rw [hg]; exact Nat.ne_of_gt (blk_lt (g := gb177) (o := .cells #[.int .i64 a0_0, .string a0_1, .slice (some ad180) l0_2.length c0_2] 84 (0, 0)) (by (with_reducible repeat (first | refine blk_drewN ?_ _ | refine blk_drew ?_ | refine blk_alloc ?_ _)); exact BK177.out)) : gb181 ≠ gb177)); clear BK177; clear HB; have BK177 := n0_; have HB := n1_; have BK181 := n2_; have GW181 := n3_; have GE181 := n4_; have NB177_181 := n5_; have NB181_177 := n6_; clear n0_ n1_ n2_ n3_ n4_ n5_ n6_; clear hb hbox hg; have hnb29 := NB181_177.out; have hnc29 := NB177_181.out; have hcz30_0 : w28.cell? ⟨gb181, 0, none⟩ = some (.int .i64 0) := (blk_cell BK181.out 0).trans rfl; have hcz30_1 : w28.cell? ⟨gb181, 1, none⟩ = some (.string (⟨#[]⟩ : ByteArray)) := (blk_cell BK181.out 1).trans rfl; have hcz30_2 : w28.cell? ⟨gb181, 2, none⟩ = some (.slice none 0 0) := (blk_cell BK181.out 2).trans rfl; have hfz30_0 := blk_frozen BK181.out 0; have hfz30_1 := blk_frozen BK181.out 1; have hfz30_2 := blk_frozen BK181.out 2) | ((with_reducible refine gate_callee (f := 84) rfl ?_); refine goesL_ (some 75) rfl rfl Tryz.func84 (by kernel_rfl) rfl #[.agg #[.int .i64 ((rd_T84 l0_2 x67_1).f0), .string ((rd_T84 l0_2 x67_1).f1), .slice A180_2 ((rd_T84 l0_2 x67_1).f2).length c180_2], .slice A1 l1.length c1, .int .i64 x2_1] rfl (by (try simp only [List.map_toArray, List.map_cons, List.map_nil]); first | done | rfl | (simp only [List.length_drop, List.length_take]; rfl)) ?_; (with_reducible refine (ih k1 (by have := HK1.out; omega) ((rd_T84 l0_2 x67_1).f0) ((rd_T84 l0_2 x67_1).f1) _ _ ((rd_T84 l0_2 x67_1).f2) _ _ l1 x2_1 t182 t183 t184 _ ?side1 ?side2 ?side3 ?side4 A25.out).mono ?_); (case side1 => exact Kd.C_below HR180_2.out (by repeat (first | (with_reducible first | exact HB.out | apply below_alloc | apply pw_below_drewN | apply below_drew1 | refine below_set ?_ GE177.out | refine below_set ?_ GE181.out) | exact HB.out))); (case side2 => exact HC180_2.out); (case side3 => exact Kd.C_below HR1.out (by repeat (first | (with_reducible first | exact HB.out | apply below_alloc | apply pw_below_drewN | apply below_drew1 | refine below_set ?_ GE177.out | refine below_set ?_ GE181.out) | exact HB.out))); (case side4 => exact HC1.out); rintro e w31 ⟨rfl, hb⟩; refine ⟨_, rfl, ?_⟩; have n0_ := Aside0.mk (blk_below (g := gb177) (o := .cells #[.int .i64 a0_0, .string a0_1, .slice (some ad180) l0_2.length c0_2] 84 (0, 0)) (by (with_reducible repeat (first | refine blk_drewN ?_ _ | refine blk_drew ?_ | refine blk_alloc ?_ _)); refine blk_far ?_ NB177_181.out _; (with_reducible repeat (first | refine blk_drewN ?_ _ | refine blk_drew ?_ | refine blk_alloc ?_ _)); refine blk_far ?_ NB177_181.out _; (with_reducible repeat (first | refine blk_drewN ?_ _ | refine blk_drew ?_ | refine blk_alloc ?_ _)); refine blk_far ?_ NB177_181.out _; (with_reducible repeat (first | refine blk_drewN ?_ _ | refine blk_drew ?_ | refine blk_alloc ?_ _)); exact BK177.out) hb); have n1_ := Aside0.mk (blk_below (g := gb181) (o := .cells #[.int .i64 ((rd_T84 l0_2 x67_1).f0), .string ((rd_T84 l0_2 x67_1).f1), .slice A180_2 ((rd_T84 l0_2 x67_1).f2).length c180_2] 84 (0, 0)) (by (with_reducible repeat (first | refine blk_drewN ?_ _ | refine blk_drew ?_ | refine blk_alloc ?_ _)); refine blk_put (cs := #[.int .i64 ((rd_T84 l0_2 x67_1).f0), .string ((rd_T84 l0_2 x67_1).f1), .slice none 0 0]) ?_ 2 _ rfl; (with_reducible repeat (first | refine blk_drewN ?_ _ | refine blk_drew ?_ | refine blk_alloc ?_ _)); refine blk_put (cs := #[.int .i64 ((rd_T84 l0_2 x67_1).f0), .string (⟨#[]⟩ : ByteArray), .slice none 0 0]) ?_ 1 _ rfl; (with_reducible repeat (first | refine blk_drewN ?_ _ | refine blk_drew ?_ | refine blk_alloc ?_ _)); refine blk_put (cs := #[.int .i64 0, .string (⟨#[]⟩ : ByteArray), .slice none 0 0]) ?_ 0 _ rfl; (with_reducible repeat (first | refine blk_drewN ?_ _ | refine blk_drew ?_ | refine blk_alloc ?_ _)); exact BK181.out) hb); have n2_ := Aside0.mk (below_step (by repeat (first | (with_reducible first | exact HB.out | apply below_alloc | apply pw_below_drewN | apply below_drew1 | refine below_set ?_ GE177.out | refine below_set ?_ GE181.out) | exact HB.out)) hb); clear BK177; clear BK181; clear HB; have BK177 := n0_; have BK181 := n1_; have HB := n2_; clear n0_ n1_ n2_; (try clear hb); (try clear hb2); (try clear hk); (try clear hi)))
                          go_roundg k1
                          case measure => have := HK1.out; omega
                          case rel => exact ⟨(t183), (x9_1 ++ t182), (t184), (wrap64 (x67_1 + 1)), (by first | rfl | (simp; done) | (simp [*]; done) | (have e_ : ∀ l : List UInt8, (l != []) = !l.isEmpty := (fun l => by cases l <;> rfl); simp [e_]; done)), (by first | rfl | (simp; done) | (simp [*]; done) | (have e_ : ∀ l : List UInt8, (l != []) = !l.isEmpty := (fun l => by cases l <;> rfl); simp [e_]; done)), (by first | rfl | (simp; done) | (simp [*]; done) | (have e_ : ∀ l : List UInt8, (l != []) = !l.isEmpty := (fun l => by cases l <;> rfl); simp [e_]; done)), (by first | rfl | (simp; done) | (simp [*]; done) | (have e_ : ∀ l : List UInt8, (l != []) = !l.isEmpty := (fun l => by cases l <;> rfl); simp [e_]; done)), H', ⟨by have := HK1.out; omega⟩, ⟨by (with_reducible repeat (first | refine blk_drewN ?_ _ | refine blk_drew ?_ | refine blk_alloc ?_ _)); exact BK177.out⟩, ⟨by repeat (first | (with_reducible first | exact HB.out | apply below_alloc | apply pw_below_drewN | apply below_drew1 | refine below_set ?_ GE177.out | refine below_set ?_ GE181.out) | exact HB.out)⟩⟩
                        · rw [if_neg c27] at H
                          exact absurd H (by simp)
                      · rw [if_neg c26] at H
                        have c26b0 : (t184 == 0) = false := beq_eq_false_iff_ne.mpr c26
                        have c26b1 : (t184 != 0) = true := bne_iff_ne.mpr c26
                        simp only [Option.some.injEq, Prod.mk.injEq] at H
                        obtain ⟨rfl, rfl, rfl⟩ := H
                        have p180 : 0 ≤ (x67_1 : Int) := of_decide_eq_true (by first | (with_reducible assumption) | assumption)
                        have q180 : x67_1 < (l0_2.length : Int) := of_decide_eq_true (by first | (with_reducible assumption) | assumption)
                        obtain ⟨ad180, A180_2, c180_2, e180, hx180_0, hx180_1, hx180_2, hl180_2, hi180_2⟩ := at_T84 HR0_2.out x67_1 p180 q180
                        cases e180
                        replace hx180_0 := (HB.out.cell (World.block_lt_of_cell? w _ hx180_0)).trans hx180_0
                        replace hx180_1 := (HB.out.cell (World.block_lt_of_cell? w _ hx180_1)).trans hx180_1
                        replace hx180_2 := (HB.out.cell (World.block_lt_of_cell? w _ hx180_2)).trans hx180_2
                        have HR180_2 := Aside0.mk hi180_2
                        have HC180_2 := Aside0.mk hl180_2
                        clear hi180_2 hl180_2
                        replace p180 := eq_true p180
                        replace q180 := eq_true q180
                        go_wp2_with (first | ((with_reducible refine gate_dst (N := 13) rfl ?_); refine box_event ?hg (N := 13) ?hd (cs := #[.int .i64 0, .string (⟨#[]⟩ : ByteArray), .slice none 0 0]) (t := 84) ?hr ?_; (case hd => rfl); (case hg => rfl); (case hr => first | (go_simp; done) | (go_simp; rfl)); intro gb181 hg w32 hbox hb; have n0_ := Aside0.mk (blk_below (g := gb177) (o := .cells #[.int .i64 a0_0, .string a0_1, .slice (some ad180) l0_2.length c0_2] 84 (0, 0)) (by (with_reducible repeat (first | refine blk_drewN ?_ _ | refine blk_drew ?_ | refine blk_alloc ?_ _)); exact BK177.out) hb); have n1_ := Aside0.mk (below_step (by repeat (first | (with_reducible first | exact HB.out | apply below_alloc | apply pw_below_drewN | apply below_drew1 | refine below_set ?_ GE177.out) | exact HB.out)) hb); have n2_ := Aside0.mk (hbox); have n3_ := Aside0.mk ((by rw [hg]; exact (below_size (by repeat (first | (with_reducible first | exact HB.out | apply below_alloc | apply pw_below_drewN | apply below_drew1 | refine below_set ?_ GE177.out) | exact HB.out))) : w.heap.size ≤ gb181)); have n4_ := Aside0.mk ((by rw [hg]; exact (below_size (by repeat (first | (with_reducible first | exact HB.out | apply below_alloc | apply pw_below_drewN | apply below_drew1 | refine below_set ?_ GE177.out) | exact HB.out))) : w.heap.size ≤ gb181)); have n5_ := Aside0.mk ((by rw [hg]; exact Nat.ne_of_lt (blk_lt (g := gb177) (o := .cells #[.int .i64 a0_0, .string a0_1, .slice (some ad180) l0_2.length c0_2] 84 (0, 0)) (by (with_reducible repeat (first | refine blk_drewN ?_ _ | refine blk_drew ?_ | refine blk_alloc ?_ _)); exact BK177.out)) : gb177 ≠ gb181)); have n6_ := Aside0.mk ((by rw [hg]; exact Nat.ne_of_gt (blk_lt (g := gb177) (o := .cells #[.int .i64 a0_0, .string a0_1, .slice (some ad180) l0_2.length c0_2] 84 (0, 0)) (by (with_reducible repeat (first | refine blk_drewN ?_ _ | refine blk_drew ?_ | refine blk_alloc ?_ _)); exact BK177.out)) : gb181 ≠ gb177)); clear BK177; clear HB; have BK177 := n0_; have HB := n1_; have BK181 := n2_; have GW181 := n3_; have GE181 := n4_; have NB177_181 := n5_; have NB181_177 := n6_; clear n0_ n1_ n2_ n3_ n4_ n5_ n6_; clear hb hbox hg; have hnb33 := NB181_177.out; have hnc33 := NB177_181.out; have hcz34_0 : w32.cell? ⟨gb181, 0, none⟩ = some (.int .i64 0) := (blk_cell BK181.out 0).trans rfl; have hcz34_1 : w32.cell? ⟨gb181, 1, none⟩ = some (.string (⟨#[]⟩ : ByteArray)) := (blk_cell BK181.out 1).trans rfl; have hcz34_2 : w32.cell? ⟨gb181, 2, none⟩ = some (.slice none 0 0) := (blk_cell BK181.out 2).trans rfl; have hfz34_0 := blk_frozen BK181.out 0; have hfz34_1 := blk_frozen BK181.out 1; have hfz34_2 := blk_frozen BK181.out 2) | ((with_reducible refine gate_callee (f := 84) rfl ?_); refine goesL_ (some 75) rfl rfl Tryz.func84 (by kernel_rfl) rfl #[.agg #[.int .i64 ((rd_T84 l0_2 x67_1).f0), .string ((rd_T84 l0_2 x67_1).f1), .slice A180_2 ((rd_T84 l0_2 x67_1).f2).length c180_2], .slice A1 l1.length c1, .int .i64 x2_1] rfl (by (try simp only [List.map_toArray, List.map_cons, List.map_nil]); first | done | rfl | (simp only [List.length_drop, List.length_take]; rfl)) ?_; (with_reducible refine (ih k1 (by have := HK1.out; omega) ((rd_T84 l0_2 x67_1).f0) ((rd_T84 l0_2 x67_1).f1) _ _ ((rd_T84 l0_2 x67_1).f2) _ _ l1 x2_1 t182 t183 t184 _ ?side1 ?side2 ?side3 ?side4 A25.out).mono ?_); (case side1 => exact Kd.C_below HR180_2.out (by repeat (first | (with_reducible first | exact HB.out | apply below_alloc | apply pw_below_drewN | apply below_drew1 | refine below_set ?_ GE177.out | refine below_set ?_ GE181.out) | exact HB.out))); (case side2 => exact HC180_2.out); (case side3 => exact Kd.C_below HR1.out (by repeat (first | (with_reducible first | exact HB.out | apply below_alloc | apply pw_below_drewN | apply below_drew1 | refine below_set ?_ GE177.out | refine below_set ?_ GE181.out) | exact HB.out))); (case side4 => exact HC1.out); rintro e w35 ⟨rfl, hb⟩; refine ⟨_, rfl, ?_⟩; have n0_ := Aside0.mk (blk_below (g := gb177) (o := .cells #[.int .i64 a0_0, .string a0_1, .slice (some ad180) l0_2.length c0_2] 84 (0, 0)) (by (with_reducible repeat (first | refine blk_drewN ?_ _ | refine blk_drew ?_ | refine blk_alloc ?_ _)); refine blk_far ?_ NB177_181.out _; (with_reducible repeat (first | refine blk_drewN ?_ _ | refine blk_drew ?_ | refine blk_alloc ?_ _)); refine blk_far ?_ NB177_181.out _; (with_reducible repeat (first | refine blk_drewN ?_ _ | refine blk_drew ?_ | refine blk_alloc ?_ _)); refine blk_far ?_ NB177_181.out _; (with_reducible repeat (first | refine blk_drewN ?_ _ | refine blk_drew ?_ | refine blk_alloc ?_ _)); exact BK177.out) hb); have n1_ := Aside0.mk (blk_below (g := gb181) (o := .cells #[.int .i64 ((rd_T84 l0_2 x67_1).f0), .string ((rd_T84 l0_2 x67_1).f1), .slice A180_2 ((rd_T84 l0_2 x67_1).f2).length c180_2] 84 (0, 0)) (by (with_reducible repeat (first | refine blk_drewN ?_ _ | refine blk_drew ?_ | refine blk_alloc ?_ _)); refine blk_put (cs := #[.int .i64 ((rd_T84 l0_2 x67_1).f0), .string ((rd_T84 l0_2 x67_1).f1), .slice none 0 0]) ?_ 2 _ rfl; (with_reducible repeat (first | refine blk_drewN ?_ _ | refine blk_drew ?_ | refine blk_alloc ?_ _)); refine blk_put (cs := #[.int .i64 ((rd_T84 l0_2 x67_1).f0), .string (⟨#[]⟩ : ByteArray), .slice none 0 0]) ?_ 1 _ rfl; (with_reducible repeat (first | refine blk_drewN ?_ _ | refine blk_drew ?_ | refine blk_alloc ?_ _)); refine blk_put (cs := #[.int .i64 0, .string (⟨#[]⟩ : ByteArray), .slice none 0 0]) ?_ 0 _ rfl; (with_reducible repeat (first | refine blk_drewN ?_ _ | refine blk_drew ?_ | refine blk_alloc ?_ _)); exact BK181.out) hb); have n2_ := Aside0.mk (below_step (by repeat (first | (with_reducible first | exact HB.out | apply below_alloc | apply pw_below_drewN | apply below_drew1 | refine below_set ?_ GE177.out | refine below_set ?_ GE181.out) | exact HB.out)) hb); clear BK177; clear BK181; clear HB; have BK177 := n0_; have BK181 := n1_; have HB := n2_; clear n0_ n1_ n2_; (try clear hb); (try clear hb2); (try clear hk); (try clear hi)))
                        go_ret3
                        exact ⟨by first | rfl | (simp [errW_none, errW_some] <;> rfl) | (simp [*, errW_none, errW_some] <;> rfl), by repeat (first | (with_reducible first | exact HB.out | apply below_alloc | apply pw_below_drewN | apply below_drew1 | refine below_set ?_ GE177.out | refine below_set ?_ GE181.out) | exact HB.out)⟩
                    · rw [if_neg c24] at H
                      exact absurd H (by simp)
                  · rw [if_neg c23] at H
                    exact absurd H (by simp)
                · rw [if_neg c22] at H
                  have c22b0 : decide (x67_1 < (l0_2.length : Int)) = false := decide_eq_false c22
                  clear c22
                  have H' := Aside0.mk H
                  clear H
                  go_wp2
                  go_meet
                  case rel => exact ⟨_, (x2_1), (x9_1), (x10_1), (by first | rfl | (simp; done) | (simp [*]; done) | (have e_ : ∀ l : List UInt8, (l != []) = !l.isEmpty := (fun l => by cases l <;> rfl); simp [e_]; done)), (by first | rfl | (simp; done) | (simp [*]; done) | (have e_ : ∀ l : List UInt8, (l != []) = !l.isEmpty := (fun l => by cases l <;> rfl); simp [e_]; done)), (by first | rfl | (simp; done) | (simp [*]; done) | (have e_ : ∀ l : List UInt8, (l != []) = !l.isEmpty := (fun l => by cases l <;> rfl); simp [e_]; done)), H', ⟨by have := HK1.out; first | omega | exact Nat.le_refl _⟩, ⟨by repeat (first | (with_reducible first | exact HB.out | apply below_alloc | apply pw_below_drewN | apply below_drew1 | refine below_set ?_ GE177.out) | exact HB.out)⟩⟩
          · rw [if_neg c20] at H
            have c20b0 : (a0_0 == 3) = false := beq_eq_false_iff_ne.mpr c20
            have c20b1 : (a0_0 != 3) = true := bne_iff_ne.mpr c20
            by_cases c36 : a0_0 = 4
            · rw [if_pos c36] at H
              have c36b0 : (a0_0 == 4) = true := beq_iff_eq.mpr c36
              have c36b1 : (a0_0 != 4) = false := bne_eq_false_iff_eq.mpr c36
              clear c36
              by_cases c37 : 0 < (l0_2.length : Int)
              · rw [if_pos c37] at H
                have c37b0 : decide (0 < (l0_2.length : Int)) = true := decide_eq_true c37
                have c37b1 : decide (0 < l0_2.length) = true := decide_eq_true (by omega)
                clear c37
                replace H := Option.bind_eq_some_iff.mp H
                obtain ⟨⟨t186, t187, t188⟩, A380, H⟩ := H
                replace H : (if t188 = 0 then (if 1 < (l0_2.length : Int) then ((saplingref13_Mean.f k ((rd_T84 l0_2 1).f0) ((rd_T84 l0_2 1).f1) ((rd_T84 l0_2 1).f2) l1 t187).bind fun bt190 => (if bt190.2.2 = 0 then (if t186.toList = bt190.1.toList then (if 2 < (l0_2.length : Int) then ((saplingref13_Mean.f k ((rd_T84 l0_2 2).f0) ((rd_T84 l0_2 2).f1) ((rd_T84 l0_2 2).f2) l1 bt190.2.1).bind fun bt194 => (saplingref13_Mean.j3 k bt194.2.1 bt194.1 bt194.2.2)) else (none)) else (if 3 < (l0_2.length : Int) then ((saplingref13_Mean.f k ((rd_T84 l0_2 3).f0) ((rd_T84 l0_2 3).f1) ((rd_T84 l0_2 3).f2) l1 bt190.2.1).bind fun bt198 => (saplingref13_Mean.j3 k bt198.2.1 bt198.1 bt198.2.2)) else (none))) else (some ((⟨#[]⟩ : ByteArray), bt190.2.1, bt190.2.2)))) else (none)) else (some ((⟨#[]⟩ : ByteArray), t187, t188))) = some (r1, r2, r3) := H
                have A38 := Aside0.mk A380
                clear A380
                by_cases c39 : t188 = 0
                · rw [if_pos c39] at H
                  have c39b0 : (t188 == 0) = true := beq_iff_eq.mpr c39
                  have c39b1 : (t188 != 0) = false := bne_eq_false_iff_eq.mpr c39
                  clear c39
                  by_cases c40 : 1 < (l0_2.length : Int)
                  · rw [if_pos c40] at H
                    have c40b0 : decide (1 < (l0_2.length : Int)) = true := decide_eq_true c40
                    have c40b1 : decide (1 < l0_2.length) = true := decide_eq_true (by omega)
                    clear c40
                    replace H := Option.bind_eq_some_iff.mp H
                    obtain ⟨⟨t190, t191, t192⟩, A410, H⟩ := H
                    replace H : (if t192 = 0 then (if t186.toList = t190.toList then (if 2 < (l0_2.length : Int) then ((saplingref13_Mean.f k ((rd_T84 l0_2 2).f0) ((rd_T84 l0_2 2).f1) ((rd_T84 l0_2 2).f2) l1 t191).bind fun bt194 => (saplingref13_Mean.j3 k bt194.2.1 bt194.1 bt194.2.2)) else (none)) else (if 3 < (l0_2.length : Int) then ((saplingref13_Mean.f k ((rd_T84 l0_2 3).f0) ((rd_T84 l0_2 3).f1) ((rd_T84 l0_2 3).f2) l1 t191).bind fun bt198 => (saplingref13_Mean.j3 k bt198.2.1 bt198.1 bt198.2.2)) else (none))) else (some ((⟨#[]⟩ : ByteArray), t191, t192))) = some (r1, r2, r3) := H
                    have A41 := Aside0.mk A410
                    clear A410
                    by_cases c42 : t192 = 0
                    · rw [if_pos c42] at H
                      have c42b0 : (t192 == 0) = true := beq_iff_eq.mpr c42
                      have c42b1 : (t192 != 0) = false := bne_eq_false_iff_eq.mpr c42
                      clear c42
                      by_cases c43 : t186.toList = t190.toList
                      · rw [if_pos c43] at H
                        have c43b0 : (t186.toList == t190.toList) = true := beq_iff_eq.mpr c43
                        have c43b1 : (t186.toList != t190.toList) = false := bne_eq_false_iff_eq.mpr c43
                        clear c43
                        by_cases c44 : 2 < (l0_2.length : Int)
                        · rw [if_pos c44] at H
                          have c44b0 : decide (2 < (l0_2.length : Int)) = true := decide_eq_true c44
                          have c44b1 : decide (2 < l0_2.length) = true := decide_eq_true (by omega)
                          clear c44
                          replace H := Option.bind_eq_some_iff.mp H
                          obtain ⟨⟨t194, t195, t196⟩, A450, H⟩ := H
                          replace H : (saplingref13_Mean.j3 k t195 t194 t196) = some (r1, r2, r3) := H
                          have A45 := Aside0.mk A450
                          clear A450
                          have H' := Aside0.mk H
                          clear H
                          have hcz46_0 : w7.cell? ⟨gb177, 0, none⟩ = some (.int .i64 a0_0) := (blk_cell BK177.out 0).trans rfl
                          have hcz46_1 : w7.cell? ⟨gb177, 1, none⟩ = some (.string a0_1) := (blk_cell BK177.out 1).trans rfl
                          have hcz46_2 : w7.cell? ⟨gb177, 2, none⟩ = some (.slice A0_2 l0_2.length c0_2) := (blk_cell BK177.out 2).trans rfl
                          have hfz46_0 := blk_frozen BK177.out 0
                          have hfz46_1 := blk_frozen BK177.out 1
                          have hfz46_2 := blk_frozen BK177.out 2
                          have p185 : 0 ≤ (0 : Int) := (by omega)
                          have q185 : 0 < (l0_2.length : Int) := of_decide_eq_true (by first | (with_reducible assumption) | assumption)
                          obtain ⟨ad185, A185_2, c185_2, e185, hx185_0, hx185_1, hx185_2, hl185_2, hi185_2⟩ := at_T84 HR0_2.out 0 p185 q185
                          cases e185
                          have qi185 : (0 < l0_2.length) = True := eq_true (by omega)
                          (try rw [show ((0 : Int)).toNat = 0 from rfl] at hx185_0)
                          (try rw [show 0 * 3 = 0 from rfl] at hx185_0)
                          (try rw [Addr.add_zero'] at hx185_0)
                          (try rw [show ((0 : Int)).toNat = 0 from rfl] at hx185_1)
                          (try rw [show 0 * 3 = 0 from rfl] at hx185_1)
                          (try rw [Addr.add_zero'] at hx185_1)
                          (try rw [show ((0 : Int)).toNat = 0 from rfl] at hx185_2)
                          (try rw [show 0 * 3 = 0 from rfl] at hx185_2)
                          (try rw [Addr.add_zero'] at hx185_2)
                          replace hx185_0 := (HB.out.cell (World.block_lt_of_cell? w _ hx185_0)).trans hx185_0
                          replace hx185_1 := (HB.out.cell (World.block_lt_of_cell? w _ hx185_1)).trans hx185_1
                          replace hx185_2 := (HB.out.cell (World.block_lt_of_cell? w _ hx185_2)).trans hx185_2
                          have HR185_2 := Aside0.mk hi185_2
                          have HC185_2 := Aside0.mk hl185_2
                          clear hi185_2 hl185_2
                          replace p185 := eq_true p185
                          replace q185 := eq_true q185
                          go_wp2_with (first | ((with_reducible refine gate_callee (f := 84) rfl ?_); refine goesL_ (some 96) rfl rfl Tryz.func84 (by kernel_rfl) rfl #[.agg #[.int .i64 ((rd_T84 l0_2 0).f0), .string ((rd_T84 l0_2 0).f1), .slice A185_2 ((rd_T84 l0_2 0).f2).length c185_2], .slice A1 l1.length c1, .int .i64 (wrap64 (a2 + 1))] rfl (by (try simp only [List.map_toArray, List.map_cons, List.map_nil]); first | done | rfl | (simp only [List.length_drop, List.length_take]; rfl)) ?_; (with_reducible refine (ih k (by omega) ((rd_T84 l0_2 0).f0) ((rd_T84 l0_2 0).f1) _ _ ((rd_T84 l0_2 0).f2) _ _ l1 (wrap64 (a2 + 1)) t186 t187 t188 _ ?side1 ?side2 ?side3 ?side4 A38.out).mono ?_); (case side1 => repeat (first | exact (Kd.C_below HR185_2.out HB.out) | (with_reducible refine Kd.C_alloc ?_ _) | (with_reducible refine Kd.C_drewN ?_ _) | (with_reducible refine Kd.C_drew ?_))); (case side2 => exact HC185_2.out); (case side3 => repeat (first | exact (Kd.C_below HR1.out HB.out) | (with_reducible refine Kd.C_alloc ?_ _) | (with_reducible refine Kd.C_drewN ?_ _) | (with_reducible refine Kd.C_drew ?_))); (case side4 => exact HC1.out); rintro e w47 ⟨rfl, hb⟩; refine ⟨_, rfl, ?_⟩; have n0_ := Aside0.mk (blk_below (g := gb177) (o := .cells #[.int .i64 a0_0, .string a0_1, .slice (some ad185) l0_2.length c0_2] 84 (0, 0)) (by (with_reducible repeat (first | refine blk_drewN ?_ _ | refine blk_drew ?_ | refine blk_alloc ?_ _)); exact BK177.out) hb); have n1_ := Aside0.mk (below_step (by repeat (first | (with_reducible first | exact HB.out | apply below_alloc | apply pw_below_drewN | apply below_drew1 | refine below_set ?_ GE177.out) | exact HB.out)) hb); clear BK177; clear HB; have BK177 := n0_; have HB := n1_; clear n0_ n1_; (try clear hb); (try clear hb2); (try clear hk); (try clear hi); have hcz48_0 : w47.cell? ⟨gb177, 0, none⟩ = some (.int .i64 a0_0) := (blk_cell BK177.out 0).trans rfl; have hcz48_1 : w47.cell? ⟨gb177, 1, none⟩ = some (.string a0_1) := (blk_cell BK177.out 1).trans rfl; have hcz48_2 : w47.cell? ⟨gb177, 2, none⟩ = some (.slice (some ad185) l0_2.length c0_2) := (blk_cell BK177.out 2).trans rfl; have hfz48_0 := blk_frozen BK177.out 0; have hfz48_1 := blk_frozen BK177.out 1; have hfz48_2 := blk_frozen BK177.out 2; have p189 : 0 ≤ (1 : Int) := (by omega); have q189 : 1 < (l0_2.length : Int) := of_decide_eq_true (by first | (with_reducible assumption) | assumption); obtain ⟨ad189, A189_2, c189_2, e189, hx189_0, hx189_1, hx189_2, hl189_2, hi189_2⟩ := at_T84 HR0_2.out 1 p189 q189; obtain rfl : ad185 = ad189 := (by injection e189); (try simp only [show (1 : Int).toNat = 1 from rfl, Nat.reduceMul, Nat.reduceEqDiff, Go.Addr.add, ↓reduceIte] at hx189_0); (try simp only [show (1 : Int).toNat = 1 from rfl, Nat.reduceMul, Nat.reduceEqDiff, Go.Addr.add, ↓reduceIte] at hx189_1); (try simp only [show (1 : Int).toNat = 1 from rfl, Nat.reduceMul, Nat.reduceEqDiff, Go.Addr.add, ↓reduceIte] at hx189_2); have qi189 : (1 < l0_2.length) = True := eq_true (by omega); (try rw [show ((1 : Int)).toNat = 1 from rfl] at hx189_0); (try rw [show 1 * 3 = 3 from rfl] at hx189_0); (try rw [show ((1 : Int)).toNat = 1 from rfl] at hx189_1); (try rw [show 1 * 3 = 3 from rfl] at hx189_1); (try rw [show ((1 : Int)).toNat = 1 from rfl] at hx189_2); (try rw [show 1 * 3 = 3 from rfl] at hx189_2); replace hx189_0 := (HB.out.cell (World.block_lt_of_cell? w _ hx189_0)).trans hx189_0; replace hx189_1 := (HB.out.cell (World.block_lt_of_cell? w _ hx189_1)).trans hx189_1; replace hx189_2 := (HB.out.cell (World.block_lt_of_cell? w _ hx189_2)).trans hx189_2; have HR189_2 := Aside0.mk hi189_2; have HC189_2 := Aside0.mk hl189_2; clear hi189_2 hl189_2; replace p189 := eq_true p189; replace q189 := eq_true q189) | ((with_reducible refine gate_callee (f := 84) rfl ?_); refine goesL_ (some 111) rfl rfl Tryz.func84 (by kernel_rfl) rfl #[.agg #[.int .i64 ((rd_T84 l0_2 1).f0), .string ((rd_T84 l0_2 1).f1), .slice A189_2 ((rd_T84 l0_2 1).f2).length c189_2], .slice A1 l1.length c1, .int .i64 t187] rfl (by (try simp only [List.map_toArray, List.map_cons, List.map_nil]); first | done | rfl | (simp only [List.length_drop, List.length_take]; rfl)) ?_; (with_reducible refine (ih k (by omega) ((rd_T84 l0_2 1).f0) ((rd_T84 l0_2 1).f1) _ _ ((rd_T84 l0_2 1).f2) _ _ l1 t187 t190 t191 t192 _ ?side1 ?side2 ?side3 ?side4 A41.out).mono ?_); (case side1 => repeat (first | exact (Kd.C_below HR189_2.out HB.out) | (with_reducible refine Kd.C_alloc ?_ _) | (with_reducible refine Kd.C_drewN ?_ _) | (with_reducible refine Kd.C_drew ?_))); (case side2 => exact HC189_2.out); (case side3 => repeat (first | exact (Kd.C_below HR1.out HB.out) | (with_reducible refine Kd.C_alloc ?_ _) | (with_reducible refine Kd.C_drewN ?_ _) | (with_reducible refine Kd.C_drew ?_))); (case side4 => exact HC1.out); rintro e w49 ⟨rfl, hb⟩; refine ⟨_, rfl, ?_⟩; have n0_ := Aside0.mk (blk_below (g := gb177) (o := .cells #[.int .i64 a0_0, .string a0_1, .slice (some ad185) l0_2.length c0_2] 84 (0, 0)) (by (with_reducible repeat (first | refine blk_drewN ?_ _ | refine blk_drew ?_ | refine blk_alloc ?_ _)); exact BK177.out) hb); have n1_ := Aside0.mk (below_step (by repeat (first | (with_reducible first | exact HB.out | apply below_alloc | apply pw_below_drewN | apply below_drew1 | refine below_set ?_ GE177.out) | exact HB.out)) hb); clear BK177; clear HB; have BK177 := n0_; have HB := n1_; clear n0_ n1_; (try clear hb); (try clear hb2); (try clear hk); (try clear hi); have hcz50_0 : w49.cell? ⟨gb177, 0, none⟩ = some (.int .i64 a0_0) := (blk_cell BK177.out 0).trans rfl; have hcz50_1 : w49.cell? ⟨gb177, 1, none⟩ = some (.string a0_1) := (blk_cell BK177.out 1).trans rfl; have hcz50_2 : w49.cell? ⟨gb177, 2, none⟩ = some (.slice (some ad185) l0_2.length c0_2) := (blk_cell BK177.out 2).trans rfl; have hfz50_0 := blk_frozen BK177.out 0; have hfz50_1 := blk_frozen BK177.out 1; have hfz50_2 := blk_frozen BK177.out 2; have p193 : 0 ≤ (2 : Int) := (by omega); have q193 : 2 < (l0_2.length : Int) := of_decide_eq_true (by first | (with_reducible assumption) | assumption); obtain ⟨ad193, A193_2, c193_2, e193, hx193_0, hx193_1, hx193_2, hl193_2, hi193_2⟩ := at_T84 HR0_2.out 2 p193 q193; obtain rfl : ad185 = ad193 := (by injection e193); (try simp only [show (2 : Int).toNat = 2 from rfl, Nat.reduceMul, Nat.reduceEqDiff, Go.Addr.add, ↓reduceIte] at hx193_0); (try simp only [show (2 : Int).toNat = 2 from rfl, Nat.reduceMul, Nat.reduceEqDiff, Go.Addr.add, ↓reduceIte] at hx193_1); (try simp only [show (2 : Int).toNat = 2 from rfl, Nat.reduceMul, Nat.reduceEqDiff, Go.Addr.add, ↓reduceIte] at hx193_2); have qi193 : (2 < l0_2.length) = True := eq_true (by omega); (try rw [show ((2 : Int)).toNat = 2 from rfl] at hx193_0); (try rw [show 2 * 3 = 6 from rfl] at hx193_0); (try rw [show ((2 : Int)).toNat = 2 from rfl] at hx193_1); (try rw [show 2 * 3 = 6 from rfl] at hx193_1); (try rw [show ((2 : Int)).toNat = 2 from rfl] at hx193_2); (try rw [show 2 * 3 = 6 from rfl] at hx193_2); replace hx193_0 := (HB.out.cell (World.block_lt_of_cell? w _ hx193_0)).trans hx193_0; replace hx193_1 := (HB.out.cell (World.block_lt_of_cell? w _ hx193_1)).trans hx193_1; replace hx193_2 := (HB.out.cell (World.block_lt_of_cell? w _ hx193_2)).trans hx193_2; have HR193_2 := Aside0.mk hi193_2; have HC193_2 := Aside0.mk hl193_2; clear hi193_2 hl193_2; replace p193 := eq_true p193; replace q193 := eq_true q193) | ((with_reducible refine gate_callee (f := 84) rfl ?_); refine goesL_ (some 129) rfl rfl Tryz.func84 (by kernel_rfl) rfl #[.agg #[.int .i64 ((rd_T84 l0_2 2).f0), .string ((rd_T84 l0_2 2).f1), .slice A193_2 ((rd_T84 l0_2 2).f2).length c193_2], .slice A1 l1.length c1, .int .i64 t191] rfl (by (try simp only [List.map_toArray, List.map_cons, List.map_nil]); first | done | rfl | (simp only [List.length_drop, List.length_take]; rfl)) ?_; (with_reducible refine (ih k (by omega) ((rd_T84 l0_2 2).f0) ((rd_T84 l0_2 2).f1) _ _ ((rd_T84 l0_2 2).f2) _ _ l1 t191 t194 t195 t196 _ ?side1 ?side2 ?side3 ?side4 A45.out).mono ?_); (case side1 => repeat (first | exact (Kd.C_below HR193_2.out HB.out) | (with_reducible refine Kd.C_alloc ?_ _) | (with_reducible refine Kd.C_drewN ?_ _) | (with_reducible refine Kd.C_drew ?_))); (case side2 => exact HC193_2.out); (case side3 => repeat (first | exact (Kd.C_below HR1.out HB.out) | (with_reducible refine Kd.C_alloc ?_ _) | (with_reducible refine Kd.C_drewN ?_ _) | (with_reducible refine Kd.C_drew ?_))); (case side4 => exact HC1.out); rintro e w51 ⟨rfl, hb⟩; refine ⟨_, rfl, ?_⟩; have n0_ := Aside0.mk (blk_below (g := gb177) (o := .cells #[.int .i64 a0_0, .string a0_1, .slice (some ad185) l0_2.length c0_2] 84 (0, 0)) (by (with_reducible repeat (first | refine blk_drewN ?_ _ | refine blk_drew ?_ | refine blk_alloc ?_ _)); exact BK177.out) hb); have n1_ := Aside0.mk (below_step (by repeat (first | (with_reducible first | exact HB.out | apply below_alloc | apply pw_below_drewN | apply below_drew1 | refine below_set ?_ GE177.out) | exact HB.out)) hb); clear BK177; clear HB; have BK177 := n0_; have HB := n1_; clear n0_ n1_; (try clear hb); (try clear hb2); (try clear hk); (try clear hi)))
                          go_meet
                          case rel => exact ⟨_, (t195), (t194), (t196), (by first | rfl | (simp; done) | (simp [*]; done) | (have e_ : ∀ l : List UInt8, (l != []) = !l.isEmpty := (fun l => by cases l <;> rfl); simp [e_]; done)), (by first | rfl | (simp; done) | (simp [*]; done) | (have e_ : ∀ l : List UInt8, (l != []) = !l.isEmpty := (fun l => by cases l <;> rfl); simp [e_]; done)), (by first | rfl | (simp; done) | (simp [*]; done) | (have e_ : ∀ l : List UInt8, (l != []) = !l.isEmpty := (fun l => by cases l <;> rfl); simp [e_]; done)), H', ⟨by first | omega | exact Nat.le_refl _⟩, ⟨by repeat (first | (with_reducible first | exact HB.out | apply below_alloc | apply pw_below_drewN | apply below_drew1 | refine below_set ?_ GE177.out) | exact HB.out)⟩⟩
                        · rw [if_neg c44] at H
                          exact absurd H (by simp)
                      · rw [if_neg c43] at H
                        have c43b0 : (t186.toList == t190.toList) = false := beq_eq_false_iff_ne.mpr c43
                        have c43b1 : (t186.toList != t190.toList) = true := bne_iff_ne.mpr c43
                        by_cases c52 : 3 < (l0_2.length : Int)
                        · rw [if_pos c52] at H
                          have c52b0 : decide (3 < (l0_2.length : Int)) = true := decide_eq_true c52
                          have c52b1 : decide (3 < l0_2.length) = true := decide_eq_true (by omega)
                          clear c52
                          replace H := Option.bind_eq_some_iff.mp H
                          obtain ⟨⟨t198, t199, t200⟩, A530, H⟩ := H
                          replace H : (saplingref13_Mean.j3 k t199 t198 t200) = some (r1, r2, r3) := H
                          have A53 := Aside0.mk A530
                          clear A530
                          have H' := Aside0.mk H
                          clear H
                          have hcz54_0 : w7.cell? ⟨gb177, 0, none⟩ = some (.int .i64 a0_0) := (blk_cell BK177.out 0).trans rfl
                          have hcz54_1 : w7.cell? ⟨gb177, 1, none⟩ = some (.string a0_1) := (blk_cell BK177.out 1).trans rfl
                          have hcz54_2 : w7.cell? ⟨gb177, 2, none⟩ = some (.slice A0_2 l0_2.length c0_2) := (blk_cell BK177.out 2).trans rfl
                          have hfz54_0 := blk_frozen BK177.out 0
                          have hfz54_1 := blk_frozen BK177.out 1
                          have hfz54_2 := blk_frozen BK177.out 2
                          have p185 : 0 ≤ (0 : Int) := (by omega)
                          have q185 : 0 < (l0_2.length : Int) := of_decide_eq_true (by first | (with_reducible assumption) | assumption)
                          obtain ⟨ad185, A185_2, c185_2, e185, hx185_0, hx185_1, hx185_2, hl185_2, hi185_2⟩ := at_T84 HR0_2.out 0 p185 q185
                          cases e185
                          have qi185 : (0 < l0_2.length) = True := eq_true (by omega)
                          (try rw [show ((0 : Int)).toNat = 0 from rfl] at hx185_0)
                          (try rw [show 0 * 3 = 0 from rfl] at hx185_0)
                          (try rw [Addr.add_zero'] at hx185_0)
                          (try rw [show ((0 : Int)).toNat = 0 from rfl] at hx185_1)
                          (try rw [show 0 * 3 = 0 from rfl] at hx185_1)
                          (try rw [Addr.add_zero'] at hx185_1)
                          (try rw [show ((0 : Int)).toNat = 0 from rfl] at hx185_2)
                          (try rw [show 0 * 3 = 0 from rfl] at hx185_2)
                          (try rw [Addr.add_zero'] at hx185_2)
                          replace hx185_0 := (HB.out.cell (World.block_lt_of_cell? w _ hx185_0)).trans hx185_0
                          replace hx185_1 := (HB.out.cell (World.block_lt_of_cell? w _ hx185_1)).trans hx185_1
                          replace hx185_2 := (HB.out.cell (World.block_lt_of_cell? w _ hx185_2)).trans hx185_2
                          have HR185_2 := Aside0.mk hi185_2
                          have HC185_2 := Aside0.mk hl185_2
                          clear hi185_2 hl185_2
                          replace p185 := eq_true p185
                          replace q185 := eq_true q185
                          go_wp2_with (first | ((with_reducible refine gate_callee (f := 84) rfl ?_); refine goesL_ (some 96) rfl rfl Tryz.func84 (by kernel_rfl) rfl #[.agg #[.int .i64 ((rd_T84 l0_2 0).f0), .string ((rd_T84 l0_2 0).f1), .slice A185_2 ((rd_T84 l0_2 0).f2).length c185_2], .slice A1 l1.length c1, .int .i64 (wrap64 (a2 + 1))] rfl (by (try simp only [List.map_toArray, List.map_cons, List.map_nil]); first | done | rfl | (simp only [List.length_drop, List.length_take]; rfl)) ?_; (with_reducible refine (ih k (by omega) ((rd_T84 l0_2 0).f0) ((rd_T84 l0_2 0).f1) _ _ ((rd_T84 l0_2 0).f2) _ _ l1 (wrap64 (a2 + 1)) t186 t187 t188 _ ?side1 ?side2 ?side3 ?side4 A38.out).mono ?_); (case side1 => repeat (first | exact (Kd.C_below HR185_2.out HB.out) | (with_reducible refine Kd.C_alloc ?_ _) | (with_reducible refine Kd.C_drewN ?_ _) | (with_reducible refine Kd.C_drew ?_))); (case side2 => exact HC185_2.out); (case side3 => repeat (first | exact (Kd.C_below HR1.out HB.out) | (with_reducible refine Kd.C_alloc ?_ _) | (with_reducible refine Kd.C_drewN ?_ _) | (with_reducible refine Kd.C_drew ?_))); (case side4 => exact HC1.out); rintro e w55 ⟨rfl, hb⟩; refine ⟨_, rfl, ?_⟩; have n0_ := Aside0.mk (blk_below (g := gb177) (o := .cells #[.int .i64 a0_0, .string a0_1, .slice (some ad185) l0_2.length c0_2] 84 (0, 0)) (by (with_reducible repeat (first | refine blk_drewN ?_ _ | refine blk_drew ?_ | refine blk_alloc ?_ _)); exact BK177.out) hb); have n1_ := Aside0.mk (below_step (by repeat (first | (with_reducible first | exact HB.out | apply below_alloc | apply pw_below_drewN | apply below_drew1 | refine below_set ?_ GE177.out) | exact HB.out)) hb); clear BK177; clear HB; have BK177 := n0_; have HB := n1_; clear n0_ n1_; (try clear hb); (try clear hb2); (try clear hk); (try clear hi); have hcz56_0 : w55.cell? ⟨gb177, 0, none⟩ = some (.int .i64 a0_0) := (blk_cell BK177.out 0).trans rfl; have hcz56_1 : w55.cell? ⟨gb177, 1, none⟩ = some (.string a0_1) := (blk_cell BK177.out 1).trans rfl; have hcz56_2 : w55.cell? ⟨gb177, 2, none⟩ = some (.slice (some ad185) l0_2.length c0_2) := (blk_cell BK177.out 2).trans rfl; have hfz56_0 := blk_frozen BK177.out 0; have hfz56_1 := blk_frozen BK177.out 1; have hfz56_2 := blk_frozen BK177.out 2; have p189 : 0 ≤ (1 : Int) := (by omega); have q189 : 1 < (l0_2.length : Int) := of_decide_eq_true (by first | (with_reducible assumption) | assumption); obtain ⟨ad189, A189_2, c189_2, e189, hx189_0, hx189_1, hx189_2, hl189_2, hi189_2⟩ := at_T84 HR0_2.out 1 p189 q189; obtain rfl : ad185 = ad189 := (by injection e189); (try simp only [show (1 : Int).toNat = 1 from rfl, Nat.reduceMul, Nat.reduceEqDiff, Go.Addr.add, ↓reduceIte] at hx189_0); (try simp only [show (1 : Int).toNat = 1 from rfl, Nat.reduceMul, Nat.reduceEqDiff, Go.Addr.add, ↓reduceIte] at hx189_1); (try simp only [show (1 : Int).toNat = 1 from rfl, Nat.reduceMul, Nat.reduceEqDiff, Go.Addr.add, ↓reduceIte] at hx189_2); have qi189 : (1 < l0_2.length) = True := eq_true (by omega); (try rw [show ((1 : Int)).toNat = 1 from rfl] at hx189_0); (try rw [show 1 * 3 = 3 from rfl] at hx189_0); (try rw [show ((1 : Int)).toNat = 1 from rfl] at hx189_1); (try rw [show 1 * 3 = 3 from rfl] at hx189_1); (try rw [show ((1 : Int)).toNat = 1 from rfl] at hx189_2); (try rw [show 1 * 3 = 3 from rfl] at hx189_2); replace hx189_0 := (HB.out.cell (World.block_lt_of_cell? w _ hx189_0)).trans hx189_0; replace hx189_1 := (HB.out.cell (World.block_lt_of_cell? w _ hx189_1)).trans hx189_1; replace hx189_2 := (HB.out.cell (World.block_lt_of_cell? w _ hx189_2)).trans hx189_2; have HR189_2 := Aside0.mk hi189_2; have HC189_2 := Aside0.mk hl189_2; clear hi189_2 hl189_2; replace p189 := eq_true p189; replace q189 := eq_true q189) | ((with_reducible refine gate_callee (f := 84) rfl ?_); refine goesL_ (some 111) rfl rfl Tryz.func84 (by kernel_rfl) rfl #[.agg #[.int .i64 ((rd_T84 l0_2 1).f0), .string ((rd_T84 l0_2 1).f1), .slice A189_2 ((rd_T84 l0_2 1).f2).length c189_2], .slice A1 l1.length c1, .int .i64 t187] rfl (by (try simp only [List.map_toArray, List.map_cons, List.map_nil]); first | done | rfl | (simp only [List.length_drop, List.length_take]; rfl)) ?_; (with_reducible refine (ih k (by omega) ((rd_T84 l0_2 1).f0) ((rd_T84 l0_2 1).f1) _ _ ((rd_T84 l0_2 1).f2) _ _ l1 t187 t190 t191 t192 _ ?side1 ?side2 ?side3 ?side4 A41.out).mono ?_); (case side1 => repeat (first | exact (Kd.C_below HR189_2.out HB.out) | (with_reducible refine Kd.C_alloc ?_ _) | (with_reducible refine Kd.C_drewN ?_ _) | (with_reducible refine Kd.C_drew ?_))); (case side2 => exact HC189_2.out); (case side3 => repeat (first | exact (Kd.C_below HR1.out HB.out) | (with_reducible refine Kd.C_alloc ?_ _) | (with_reducible refine Kd.C_drewN ?_ _) | (with_reducible refine Kd.C_drew ?_))); (case side4 => exact HC1.out); rintro e w57 ⟨rfl, hb⟩; refine ⟨_, rfl, ?_⟩; have n0_ := Aside0.mk (blk_below (g := gb177) (o := .cells #[.int .i64 a0_0, .string a0_1, .slice (some ad185) l0_2.length c0_2] 84 (0, 0)) (by (with_reducible repeat (first | refine blk_drewN ?_ _ | refine blk_drew ?_ | refine blk_alloc ?_ _)); exact BK177.out) hb); have n1_ := Aside0.mk (below_step (by repeat (first | (with_reducible first | exact HB.out | apply below_alloc | apply pw_below_drewN | apply below_drew1 | refine below_set ?_ GE177.out) | exact HB.out)) hb); clear BK177; clear HB; have BK177 := n0_; have HB := n1_; clear n0_ n1_; (try clear hb); (try clear hb2); (try clear hk); (try clear hi); have hcz58_0 : w57.cell? ⟨gb177, 0, none⟩ = some (.int .i64 a0_0) := (blk_cell BK177.out 0).trans rfl; have hcz58_1 : w57.cell? ⟨gb177, 1, none⟩ = some (.string a0_1) := (blk_cell BK177.out 1).trans rfl; have hcz58_2 : w57.cell? ⟨gb177, 2, none⟩ = some (.slice (some ad185) l0_2.length c0_2) := (blk_cell BK177.out 2).trans rfl; have hfz58_0 := blk_frozen BK177.out 0; have hfz58_1 := blk_frozen BK177.out 1; have hfz58_2 := blk_frozen BK177.out 2; have p197 : 0 ≤ (3 : Int) := (by omega); have q197 : 3 < (l0_2.length : Int) := of_decide_eq_true (by first | (with_reducible assumption) | assumption); obtain ⟨ad197, A197_2, c197_2, e197, hx197_0, hx197_1, hx197_2, hl197_2, hi197_2⟩ := at_T84 HR0_2.out 3 p197 q197; obtain rfl : ad185 = ad197 := (by injection e197); (try simp only [show (3 : Int).toNat = 3 from rfl, Nat.reduceMul, Nat.reduceEqDiff, Go.Addr.add, ↓reduceIte] at hx197_0); (try simp only [show (3 : Int).toNat = 3 from rfl, Nat.reduceMul, Nat.reduceEqDiff, Go.Addr.add, ↓reduceIte] at hx197_1); (try simp only [show (3 : Int).toNat = 3 from rfl, Nat.reduceMul, Nat.reduceEqDiff, Go.Addr.add, ↓reduceIte] at hx197_2); have qi197 : (3 < l0_2.length) = True := eq_true (by omega); (try rw [show ((3 : Int)).toNat = 3 from rfl] at hx197_0); (try rw [show 3 * 3 = 9 from rfl] at hx197_0); (try rw [show ((3 : Int)).toNat = 3 from rfl] at hx197_1); (try rw [show 3 * 3 = 9 from rfl] at hx197_1); (try rw [show ((3 : Int)).toNat = 3 from rfl] at hx197_2); (try rw [show 3 * 3 = 9 from rfl] at hx197_2); replace hx197_0 := (HB.out.cell (World.block_lt_of_cell? w _ hx197_0)).trans hx197_0; replace hx197_1 := (HB.out.cell (World.block_lt_of_cell? w _ hx197_1)).trans hx197_1; replace hx197_2 := (HB.out.cell (World.block_lt_of_cell? w _ hx197_2)).trans hx197_2; have HR197_2 := Aside0.mk hi197_2; have HC197_2 := Aside0.mk hl197_2; clear hi197_2 hl197_2; replace p197 := eq_true p197; replace q197 := eq_true q197) | ((with_reducible refine gate_callee (f := 84) rfl ?_); refine goesL_ (some 140) rfl rfl Tryz.func84 (by kernel_rfl) rfl #[.agg #[.int .i64 ((rd_T84 l0_2 3).f0), .string ((rd_T84 l0_2 3).f1), .slice A197_2 ((rd_T84 l0_2 3).f2).length c197_2], .slice A1 l1.length c1, .int .i64 t191] rfl (by (try simp only [List.map_toArray, List.map_cons, List.map_nil]); first | done | rfl | (simp only [List.length_drop, List.length_take]; rfl)) ?_; (with_reducible refine (ih k (by omega) ((rd_T84 l0_2 3).f0) ((rd_T84 l0_2 3).f1) _ _ ((rd_T84 l0_2 3).f2) _ _ l1 t191 t198 t199 t200 _ ?side1 ?side2 ?side3 ?side4 A53.out).mono ?_); (case side1 => repeat (first | exact (Kd.C_below HR197_2.out HB.out) | (with_reducible refine Kd.C_alloc ?_ _) | (with_reducible refine Kd.C_drewN ?_ _) | (with_reducible refine Kd.C_drew ?_))); (case side2 => exact HC197_2.out); (case side3 => repeat (first | exact (Kd.C_below HR1.out HB.out) | (with_reducible refine Kd.C_alloc ?_ _) | (with_reducible refine Kd.C_drewN ?_ _) | (with_reducible refine Kd.C_drew ?_))); (case side4 => exact HC1.out); rintro e w59 ⟨rfl, hb⟩; refine ⟨_, rfl, ?_⟩; have n0_ := Aside0.mk (blk_below (g := gb177) (o := .cells #[.int .i64 a0_0, .string a0_1, .slice (some ad185) l0_2.length c0_2] 84 (0, 0)) (by (with_reducible repeat (first | refine blk_drewN ?_ _ | refine blk_drew ?_ | refine blk_alloc ?_ _)); exact BK177.out) hb); have n1_ := Aside0.mk (below_step (by repeat (first | (with_reducible first | exact HB.out | apply below_alloc | apply pw_below_drewN | apply below_drew1 | refine below_set ?_ GE177.out) | exact HB.out)) hb); clear BK177; clear HB; have BK177 := n0_; have HB := n1_; clear n0_ n1_; (try clear hb); (try clear hb2); (try clear hk); (try clear hi)))
                          go_meet
                          case rel => exact ⟨_, (t199), (t198), (t200), (by first | rfl | (simp; done) | (simp [*]; done) | (have e_ : ∀ l : List UInt8, (l != []) = !l.isEmpty := (fun l => by cases l <;> rfl); simp [e_]; done)), (by first | rfl | (simp; done) | (simp [*]; done) | (have e_ : ∀ l : List UInt8, (l != []) = !l.isEmpty := (fun l => by cases l <;> rfl); simp [e_]; done)), (by first | rfl | (simp; done) | (simp [*]; done) | (have e_ : ∀ l : List UInt8, (l != []) = !l.isEmpty := (fun l => by cases l <;> rfl); simp [e_]; done)), H', ⟨by first | omega | exact Nat.le_refl _⟩, ⟨by repeat (first | (with_reducible first | exact HB.out | apply below_alloc | apply pw_below_drewN | apply below_drew1 | refine below_set ?_ GE177.out) | exact HB.out)⟩⟩
                        · rw [if_neg c52] at H
                          exact absurd H (by simp)
                    · rw [if_neg c42] at H
                      have c42b0 : (t192 == 0) = false := beq_eq_false_iff_ne.mpr c42
                      have c42b1 : (t192 != 0) = true := bne_iff_ne.mpr c42
                      simp only [Option.some.injEq, Prod.mk.injEq] at H
                      obtain ⟨rfl, rfl, rfl⟩ := H
                      have hcz60_0 : w7.cell? ⟨gb177, 0, none⟩ = some (.int .i64 a0_0) := (blk_cell BK177.out 0).trans rfl
                      have hcz60_1 : w7.cell? ⟨gb177, 1, none⟩ = some (.string a0_1) := (blk_cell BK177.out 1).trans rfl
                      have hcz60_2 : w7.cell? ⟨gb177, 2, none⟩ = some (.slice A0_2 l0_2.length c0_2) := (blk_cell BK177.out 2).trans rfl
                      have hfz60_0 := blk_frozen BK177.out 0
                      have hfz60_1 := blk_frozen BK177.out 1
                      have hfz60_2 := blk_frozen BK177.out 2
                      have p185 : 0 ≤ (0 : Int) := (by omega)
                      have q185 : 0 < (l0_2.length : Int) := of_decide_eq_true (by first | (with_reducible assumption) | assumption)
                      obtain ⟨ad185, A185_2, c185_2, e185, hx185_0, hx185_1, hx185_2, hl185_2, hi185_2⟩ := at_T84 HR0_2.out 0 p185 q185
                      cases e185
                      have qi185 : (0 < l0_2.length) = True := eq_true (by omega)
                      (try rw [show ((0 : Int)).toNat = 0 from rfl] at hx185_0)
                      (try rw [show 0 * 3 = 0 from rfl] at hx185_0)
                      (try rw [Addr.add_zero'] at hx185_0)
                      (try rw [show ((0 : Int)).toNat = 0 from rfl] at hx185_1)
                      (try rw [show 0 * 3 = 0 from rfl] at hx185_1)
                      (try rw [Addr.add_zero'] at hx185_1)
                      (try rw [show ((0 : Int)).toNat = 0 from rfl] at hx185_2)
                      (try rw [show 0 * 3 = 0 from rfl] at hx185_2)
                      (try rw [Addr.add_zero'] at hx185_2)
                      replace hx185_0 := (HB.out.cell (World.block_lt_of_cell? w _ hx185_0)).trans hx185_0
                      replace hx185_1 := (HB.out.cell (World.block_lt_of_cell? w _ hx185_1)).trans hx185_1
                      replace hx185_2 := (HB.out.cell (World.block_lt_of_cell? w _ hx185_2)).trans hx185_2
                      have HR185_2 := Aside0.mk hi185_2
                      have HC185_2 := Aside0.mk hl185_2
                      clear hi185_2 hl185_2
                      replace p185 := eq_true p185
                      replace q185 := eq_true q185
                      go_wp2_with (first | ((with_reducible refine gate_callee (f := 84) rfl ?_); refine goesL_ (some 96) rfl rfl Tryz.func84 (by kernel_rfl) rfl #[.agg #[.int .i64 ((rd_T84 l0_2 0).f0), .string ((rd_T84 l0_2 0).f1), .slice A185_2 ((rd_T84 l0_2 0).f2).length c185_2], .slice A1 l1.length c1, .int .i64 (wrap64 (a2 + 1))] rfl (by (try simp only [List.map_toArray, List.map_cons, List.map_nil]); first | done | rfl | (simp only [List.length_drop, List.length_take]; rfl)) ?_; (with_reducible refine (ih k (by omega) ((rd_T84 l0_2 0).f0) ((rd_T84 l0_2 0).f1) _ _ ((rd_T84 l0_2 0).f2) _ _ l1 (wrap64 (a2 + 1)) t186 t187 t188 _ ?side1 ?side2 ?side3 ?side4 A38.out).mono ?_); (case side1 => repeat (first | exact (Kd.C_below HR185_2.out HB.out) | (with_reducible refine Kd.C_alloc ?_ _) | (with_reducible refine Kd.C_drewN ?_ _) | (with_reducible refine Kd.C_drew ?_))); (case side2 => exact HC185_2.out); (case side3 => repeat (first | exact (Kd.C_below HR1.out HB.out) | (with_reducible refine Kd.C_alloc ?_ _) | (with_reducible refine Kd.C_drewN ?_ _) | (with_reducible refine Kd.C_drew ?_))); (case side4 => exact HC1.out); rintro e w61 ⟨rfl, hb⟩; refine ⟨_, rfl, ?_⟩; have n0_ := Aside0.mk (blk_below (g := gb177) (o := .cells #[.int .i64 a0_0, .string a0_1, .slice (some ad185) l0_2.length c0_2] 84 (0, 0)) (by (with_reducible repeat (first | refine blk_drewN ?_ _ | refine blk_drew ?_ | refine blk_alloc ?_ _)); exact BK177.out) hb); have n1_ := Aside0.mk (below_step (by repeat (first | (with_reducible first | exact HB.out | apply below_alloc | apply pw_below_drewN | apply below_drew1 | refine below_set ?_ GE177.out) | exact HB.out)) hb); clear BK177; clear HB; have BK177 := n0_; have HB := n1_; clear n0_ n1_; (try clear hb); (try clear hb2); (try clear hk); (try clear hi); have hcz62_0 : w61.cell? ⟨gb177, 0, none⟩ = some (.int .i64 a0_0) := (blk_cell BK177.out 0).trans rfl; have hcz62_1 : w61.cell? ⟨gb177, 1, none⟩ = some (.string a0_1) := (blk_cell BK177.out 1).trans rfl; have hcz62_2 : w61.cell? ⟨gb177, 2, none⟩ = some (.slice (some ad185) l0_2.length c0_2) := (blk_cell BK177.out 2).trans rfl; have hfz62_0 := blk_frozen BK177.out 0; have hfz62_1 := blk_frozen BK177.out 1; have hfz62_2 := blk_frozen BK177.out 2; have p189 : 0 ≤ (1 : Int) := (by omega); have q189 : 1 < (l0_2.length : Int) := of_decide_eq_true (by first | (with_reducible assumption) | assumption); obtain ⟨ad189, A189_2, c189_2, e189, hx189_0, hx189_1, hx189_2, hl189_2, hi189_2⟩ := at_T84 HR0_2.out 1 p189 q189; obtain rfl : ad185 = ad189 := (by injection e189); (try simp only [show (1 : Int).toNat = 1 from rfl, Nat.reduceMul, Nat.reduceEqDiff, Go.Addr.add, ↓reduceIte] at hx189_0); (try simp only [show (1 : Int).toNat = 1 from rfl, Nat.reduceMul, Nat.reduceEqDiff, Go.Addr.add, ↓reduceIte] at hx189_1); (try simp only [show (1 : Int).toNat = 1 from rfl, Nat.reduceMul, Nat.reduceEqDiff, Go.Addr.add, ↓reduceIte] at hx189_2); have qi189 : (1 < l0_2.length) = True := eq_true (by omega); (try rw [show ((1 : Int)).toNat = 1 from rfl] at hx189_0); (try rw [show 1 * 3 = 3 from rfl] at hx189_0); (try rw [show ((1 : Int)).toNat = 1 from rfl] at hx189_1); (try rw [show 1 * 3 = 3 from rfl] at hx189_1); (try rw [show ((1 : Int)).toNat = 1 from rfl] at hx189_2); (try rw [show 1 * 3 = 3 from rfl] at hx189_2); replace hx189_0 := (HB.out.cell (World.block_lt_of_cell? w _ hx189_0)).trans hx189_0; replace hx189_1 := (HB.out.cell (World.block_lt_of_cell? w _ hx189_1)).trans hx189_1; replace hx189_2 := (HB.out.cell (World.block_lt_of_cell? w _ hx189_2)).trans hx189_2; have HR189_2 := Aside0.mk hi189_2; have HC189_2 := Aside0.mk hl189_2; clear hi189_2 hl189_2; replace p189 := eq_true p189; replace q189 := eq_true q189) | ((with_reducible refine gate_callee (f := 84) rfl ?_); refine goesL_ (some 111) rfl rfl Tryz.func84 (by kernel_rfl) rfl #[.agg #[.int .i64 ((rd_T84 l0_2 1).f0), .string ((rd_T84 l0_2 1).f1), .slice A189_2 ((rd_T84 l0_2 1).f2).length c189_2], .slice A1 l1.length c1, .int .i64 t187] rfl (by (try simp only [List.map_toArray, List.map_cons, List.map_nil]); first | done | rfl | (simp only [List.length_drop, List.length_take]; rfl)) ?_; (with_reducible refine (ih k (by omega) ((rd_T84 l0_2 1).f0) ((rd_T84 l0_2 1).f1) _ _ ((rd_T84 l0_2 1).f2) _ _ l1 t187 t190 t191 t192 _ ?side1 ?side2 ?side3 ?side4 A41.out).mono ?_); (case side1 => repeat (first | exact (Kd.C_below HR189_2.out HB.out) | (with_reducible refine Kd.C_alloc ?_ _) | (with_reducible refine Kd.C_drewN ?_ _) | (with_reducible refine Kd.C_drew ?_))); (case side2 => exact HC189_2.out); (case side3 => repeat (first | exact (Kd.C_below HR1.out HB.out) | (with_reducible refine Kd.C_alloc ?_ _) | (with_reducible refine Kd.C_drewN ?_ _) | (with_reducible refine Kd.C_drew ?_))); (case side4 => exact HC1.out); rintro e w63 ⟨rfl, hb⟩; refine ⟨_, rfl, ?_⟩; have n0_ := Aside0.mk (blk_below (g := gb177) (o := .cells #[.int .i64 a0_0, .string a0_1, .slice (some ad185) l0_2.length c0_2] 84 (0, 0)) (by (with_reducible repeat (first | refine blk_drewN ?_ _ | refine blk_drew ?_ | refine blk_alloc ?_ _)); exact BK177.out) hb); have n1_ := Aside0.mk (below_step (by repeat (first | (with_reducible first | exact HB.out | apply below_alloc | apply pw_below_drewN | apply below_drew1 | refine below_set ?_ GE177.out) | exact HB.out)) hb); clear BK177; clear HB; have BK177 := n0_; have HB := n1_; clear n0_ n1_; (try clear hb); (try clear hb2); (try clear hk); (try clear hi)))
                      go_ret3
                      exact ⟨by first | rfl | (simp [errW_none, errW_some] <;> rfl) | (simp [*, errW_none, errW_some] <;> rfl), by repeat (first | (with_reducible first | exact HB.out | apply below_alloc | apply pw_below_drewN | apply below_drew1 | refine below_set ?_ GE177.out) | exact HB.out)⟩
                  · rw [if_neg c40] at H
                    exact absurd H (by simp)
                · rw [if_neg c39] at H
                  have c39b0 : (t188 == 0) = false := beq_eq_false_iff_ne.mpr c39
                  have c39b1 : (t188 != 0) = true := bne_iff_ne.mpr c39
                  simp only [Option.some.injEq, Prod.mk.injEq] at H
                  obtain ⟨rfl, rfl, rfl⟩ := H
                  have hcz64_0 : w7.cell? ⟨gb177, 0, none⟩ = some (.int .i64 a0_0) := (blk_cell BK177.out 0).trans rfl
                  have hcz64_1 : w7.cell? ⟨gb177, 1, none⟩ = some (.string a0_1) := (blk_cell BK177.out 1).trans rfl
                  have hcz64_2 : w7.cell? ⟨gb177, 2, none⟩ = some (.slice A0_2 l0_2.length c0_2) := (blk_cell BK177.out 2).trans rfl
                  have hfz64_0 := blk_frozen BK177.out 0
                  have hfz64_1 := blk_frozen BK177.out 1
                  have hfz64_2 := blk_frozen BK177.out 2
                  have p185 : 0 ≤ (0 : Int) := (by omega)
                  have q185 : 0 < (l0_2.length : Int) := of_decide_eq_true (by first | (with_reducible assumption) | assumption)
                  obtain ⟨ad185, A185_2, c185_2, e185, hx185_0, hx185_1, hx185_2, hl185_2, hi185_2⟩ := at_T84 HR0_2.out 0 p185 q185
                  cases e185
                  have qi185 : (0 < l0_2.length) = True := eq_true (by omega)
                  (try rw [show ((0 : Int)).toNat = 0 from rfl] at hx185_0)
                  (try rw [show 0 * 3 = 0 from rfl] at hx185_0)
                  (try rw [Addr.add_zero'] at hx185_0)
                  (try rw [show ((0 : Int)).toNat = 0 from rfl] at hx185_1)
                  (try rw [show 0 * 3 = 0 from rfl] at hx185_1)
                  (try rw [Addr.add_zero'] at hx185_1)
                  (try rw [show ((0 : Int)).toNat = 0 from rfl] at hx185_2)
                  (try rw [show 0 * 3 = 0 from rfl] at hx185_2)
                  (try rw [Addr.add_zero'] at hx185_2)
                  replace hx185_0 := (HB.out.cell (World.block_lt_of_cell? w _ hx185_0)).trans hx185_0
                  replace hx185_1 := (HB.out.cell (World.block_lt_of_cell? w _ hx185_1)).trans hx185_1
                  replace hx185_2 := (HB.out.cell (World.block_lt_of_cell? w _ hx185_2)).trans hx185_2
                  have HR185_2 := Aside0.mk hi185_2
                  have HC185_2 := Aside0.mk hl185_2
                  clear hi185_2 hl185_2
                  replace p185 := eq_true p185
                  replace q185 := eq_true q185
                  go_wp2_with (first | ((with_reducible refine gate_callee (f := 84) rfl ?_); refine goesL_ (some 96) rfl rfl Tryz.func84 (by kernel_rfl) rfl #[.agg #[.int .i64 ((rd_T84 l0_2 0).f0), .string ((rd_T84 l0_2 0).f1), .slice A185_2 ((rd_T84 l0_2 0).f2).length c185_2], .slice A1 l1.length c1, .int .i64 (wrap64 (a2 + 1))] rfl (by (try simp only [List.map_toArray, List.map_cons, List.map_nil]); first | done | rfl | (simp only [List.length_drop, List.length_take]; rfl)) ?_; (with_reducible refine (ih k (by omega) ((rd_T84 l0_2 0).f0) ((rd_T84 l0_2 0).f1) _ _ ((rd_T84 l0_2 0).f2) _ _ l1 (wrap64 (a2 + 1)) t186 t187 t188 _ ?side1 ?side2 ?side3 ?side4 A38.out).mono ?_); (case side1 => repeat (first | exact (Kd.C_below HR185_2.out HB.out) | (with_reducible refine Kd.C_alloc ?_ _) | (with_reducible refine Kd.C_drewN ?_ _) | (with_reducible refine Kd.C_drew ?_))); (case side2 => exact HC185_2.out); (case side3 => repeat (first | exact (Kd.C_below HR1.out HB.out) | (with_reducible refine Kd.C_alloc ?_ _) | (with_reducible refine Kd.C_drewN ?_ _) | (with_reducible refine Kd.C_drew ?_))); (case side4 => exact HC1.out); rintro e w65 ⟨rfl, hb⟩; refine ⟨_, rfl, ?_⟩; have n0_ := Aside0.mk (blk_below (g := gb177) (o := .cells #[.int .i64 a0_0, .string a0_1, .slice (some ad185) l0_2.length c0_2] 84 (0, 0)) (by (with_reducible repeat (first | refine blk_drewN ?_ _ | refine blk_drew ?_ | refine blk_alloc ?_ _)); exact BK177.out) hb); have n1_ := Aside0.mk (below_step (by repeat (first | (with_reducible first | exact HB.out | apply below_alloc | apply pw_below_drewN | apply below_drew1 | refine below_set ?_ GE177.out) | exact HB.out)) hb); clear BK177; clear HB; have BK177 := n0_; have HB := n1_; clear n0_ n1_; (try clear hb); (try clear hb2); (try clear hk); (try clear hi)))
                  go_ret3
                  exact ⟨by first | rfl | (simp [errW_none, errW_some] <;> rfl) | (simp [*, errW_none, errW_some] <;> rfl), by repeat (first | (with_reducible first | exact HB.out | apply below_alloc | apply pw_below_drewN | apply below_drew1 | refine below_set ?_ GE177.out) | exact HB.out)⟩
              · rw [if_neg c37] at H
                exact absurd H (by simp)
            · rw [if_neg c36] at H
              have c36b0 : (a0_0 == 4) = false := beq_eq_false_iff_ne.mpr c36
              have c36b1 : (a0_0 != 4) = true := bne_iff_ne.mpr c36
              by_cases c66 : a0_0 = 5
              · rw [if_pos c66] at H
                have c66b0 : (a0_0 == 5) = true := beq_iff_eq.mpr c66
                have c66b1 : (a0_0 != 5) = false := bne_eq_false_iff_eq.mpr c66
                clear c66
                by_cases c67 : 0 < (l0_2.length : Int)
                · rw [if_pos c67] at H
                  have c67b0 : decide (0 < (l0_2.length : Int)) = true := decide_eq_true c67
                  have c67b1 : decide (0 < l0_2.length) = true := decide_eq_true (by omega)
                  clear c67
                  replace H := Option.bind_eq_some_iff.mp H
                  obtain ⟨⟨t202, t203, t204⟩, A680, H⟩ := H
                  replace H : (if t204 = 0 then ((some (([] : List (S219)) : List (S219))).bind fun y205 => (if y205.length + l1.length < 4398046511104 then ((some (y205 ++ l1 : List (S219))).bind fun y208 => ((some (([(⟨a0_1, t202⟩ : S219)] : List (S219)) : List (S219))).bind fun y211 => (if y208.length + y211.length < 4398046511104 then (if 1 < (l0_2.length : Int) then ((saplingref13_Mean.f k ((rd_T84 l0_2 1).f0) ((rd_T84 l0_2 1).f1) ((rd_T84 l0_2 1).f2) (y208 ++ y211) t203).bind fun bt218 => (saplingref13_Mean.j3 k bt218.2.1 bt218.1 bt218.2.2)) else (none)) else (none)))) else (none))) else (some ((⟨#[]⟩ : ByteArray), t203, t204))) = some (r1, r2, r3) := H
                  have A68 := Aside0.mk A680
                  clear A680
                  by_cases c69 : t204 = 0
                  · rw [if_pos c69] at H
                    have c69b0 : (t204 == 0) = true := beq_iff_eq.mpr c69
                    have c69b1 : (t204 != 0) = false := bne_eq_false_iff_eq.mpr c69
                    clear c69
                    obtain ⟨y205, hy205⟩ : ∃ y_ : List (S219), y_ = (([] : List (S219))) := ⟨_, rfl⟩
                    replace H : (if y205.length + l1.length < 4398046511104 then ((some (y205 ++ l1 : List (S219))).bind fun y208 => ((some (([(⟨a0_1, t202⟩ : S219)] : List (S219)) : List (S219))).bind fun y211 => (if y208.length + y211.length < 4398046511104 then (if 1 < (l0_2.length : Int) then ((saplingref13_Mean.f k ((rd_T84 l0_2 1).f0) ((rd_T84 l0_2 1).f1) ((rd_T84 l0_2 1).f2) (y208 ++ y211) t203).bind fun bt218 => (saplingref13_Mean.j3 k bt218.2.1 bt218.1 bt218.2.2)) else (none)) else (none)))) else (none)) = some (r1, r2, r3) := by first | (rw [hy205]; with_reducible exact H) | (have H2_ := (Option.bind_some _ _).symm.trans H; rw [hy205]; with_reducible exact H2_) | (have H2_ := (Option.bind_some _ _).symm.trans H; with_reducible exact H2_) | with_reducible exact H | (rw [hy205]; exact H) | exact H
                    have Ny205 := Aside0.mk hy205
                    clear hy205
                    by_cases c70 : y205.length + l1.length < 4398046511104
                    · rw [if_pos c70] at H
                      have LMc70 := Aside0.mk c70
                      clear c70
                      obtain ⟨y208, hy208⟩ : ∃ y_ : List (S219), y_ = (y205 ++ l1) := ⟨_, rfl⟩
                      replace H : ((some (([(⟨a0_1, t202⟩ : S219)] : List (S219)) : List (S219))).bind fun y211 => (if y208.length + y211.length < 4398046511104 then (if 1 < (l0_2.length : Int) then ((saplingref13_Mean.f k ((rd_T84 l0_2 1).f0) ((rd_T84 l0_2 1).f1) ((rd_T84 l0_2 1).f2) (y208 ++ y211) t203).bind fun bt218 => (saplingref13_Mean.j3 k bt218.2.1 bt218.1 bt218.2.2)) else (none)) else (none))) = some (r1, r2, r3) := by first | (rw [hy208]; with_reducible exact H) | (have H2_ := (Option.bind_some _ _).symm.trans H; rw [hy208]; with_reducible exact H2_) | (have H2_ := (Option.bind_some _ _).symm.trans H; with_reducible exact H2_) | with_reducible exact H | (rw [hy208]; exact H) | exact H
                      have Ny208 := Aside0.mk hy208
                      clear hy208
                      obtain ⟨y211, hy211⟩ : ∃ y_ : List (S219), y_ = (([(⟨a0_1, t202⟩ : S219)] : List (S219))) := ⟨_, rfl⟩
                      replace H : (if y208.length + y211.length < 4398046511104 then (if 1 < (l0_2.length : Int) then ((saplingref13_Mean.f k ((rd_T84 l0_2 1).f0) ((rd_T84 l0_2 1).f1) ((rd_T84 l0_2 1).f2) (y208 ++ y211) t203).bind fun bt218 => (saplingref13_Mean.j3 k bt218.2.1 bt218.1 bt218.2.2)) else (none)) else (none)) = some (r1, r2, r3) := by first | (rw [hy211]; with_reducible exact H) | (have H2_ := (Option.bind_some _ _).symm.trans H; rw [hy211]; with_reducible exact H2_) | (have H2_ := (Option.bind_some _ _).symm.trans H; with_reducible exact H2_) | with_reducible exact H | (rw [hy211]; exact H) | exact H
                      have Ny211 := Aside0.mk hy211
                      clear hy211
                      by_cases c71 : y208.length + y211.length < 4398046511104
                      · rw [if_pos c71] at H
                        have LMc71 := Aside0.mk c71
                        clear c71
                        obtain ⟨y214, hy214⟩ : ∃ y_ : List (S219), y_ = (y208 ++ y211) := ⟨_, rfl⟩
                        replace H : (if 1 < (l0_2.length : Int) then ((saplingref13_Mean.f k ((rd_T84 l0_2 1).f0) ((rd_T84 l0_2 1).f1) ((rd_T84 l0_2 1).f2) y214 t203).bind fun bt218 => (saplingref13_Mean.j3 k bt218.2.1 bt218.1 bt218.2.2)) else (none)) = some (r1, r2, r3) := by first | (rw [hy214]; with_reducible exact H) | (have H2_ := (Option.bind_some _ _).symm.trans H; rw [hy214]; with_reducible exact H2_) | (have H2_ := (Option.bind_some _ _).symm.trans H; with_reducible exact H2_) | with_reducible exact H | (rw [hy214]; exact H) | exact H
                        have Ny214 := Aside0.mk hy214
                        clear hy214
                        by_cases c72 : 1 < (l0_2.length : Int)
                        · rw [if_pos c72] at H
                          have c72b0 : decide (1 < (l0_2.length : Int)) = true := decide_eq_true c72
                          have c72b1 : decide (1 < l0_2.length) = true := decide_eq_true (by omega)
                          clear c72
                          replace H := Option.bind_eq_some_iff.mp H
                          obtain ⟨⟨t218, t219, t220⟩, A730, H⟩ := H
                          replace H : (saplingref13_Mean.j3 k t219 t218 t220) = some (r1, r2, r3) := H
                          have A73 := Aside0.mk A730
                          clear A730
                          have H' := Aside0.mk H
                          clear H
                          have hcz74_0 : w7.cell? ⟨gb177, 0, none⟩ = some (.int .i64 a0_0) := (blk_cell BK177.out 0).trans rfl
                          have hcz74_1 : w7.cell? ⟨gb177, 1, none⟩ = some (.string a0_1) := (blk_cell BK177.out 1).trans rfl
                          have hcz74_2 : w7.cell? ⟨gb177, 2, none⟩ = some (.slice A0_2 l0_2.length c0_2) := (blk_cell BK177.out 2).trans rfl
                          have hfz74_0 := blk_frozen BK177.out 0
                          have hfz74_1 := blk_frozen BK177.out 1
                          have hfz74_2 := blk_frozen BK177.out 2
                          have p201 : 0 ≤ (0 : Int) := (by omega)
                          have q201 : 0 < (l0_2.length : Int) := of_decide_eq_true (by first | (with_reducible assumption) | assumption)
                          obtain ⟨ad201, A201_2, c201_2, e201, hx201_0, hx201_1, hx201_2, hl201_2, hi201_2⟩ := at_T84 HR0_2.out 0 p201 q201
                          cases e201
                          have qi201 : (0 < l0_2.length) = True := eq_true (by omega)
                          (try rw [show ((0 : Int)).toNat = 0 from rfl] at hx201_0)
                          (try rw [show 0 * 3 = 0 from rfl] at hx201_0)
                          (try rw [Addr.add_zero'] at hx201_0)
                          (try rw [show ((0 : Int)).toNat = 0 from rfl] at hx201_1)
                          (try rw [show 0 * 3 = 0 from rfl] at hx201_1)
                          (try rw [Addr.add_zero'] at hx201_1)
                          (try rw [show ((0 : Int)).toNat = 0 from rfl] at hx201_2)
                          (try rw [show 0 * 3 = 0 from rfl] at hx201_2)
                          (try rw [Addr.add_zero'] at hx201_2)
                          replace hx201_0 := (HB.out.cell (World.block_lt_of_cell? w _ hx201_0)).trans hx201_0
                          replace hx201_1 := (HB.out.cell (World.block_lt_of_cell? w _ hx201_1)).trans hx201_1
                          replace hx201_2 := (HB.out.cell (World.block_lt_of_cell? w _ hx201_2)).trans hx201_2
                          have HR201_2 := Aside0.mk hi201_2
                          have HC201_2 := Aside0.mk hl201_2
                          clear hi201_2 hl201_2
                          replace p201 := eq_true p201
                          replace q201 := eq_true q201
                          try go_wp2_with (first | ((with_reducible refine gate_callee (f := 84) rfl ?_); refine goesL_ (some 153) rfl rfl Tryz.func84 (by kernel_rfl) rfl #[.agg #[.int .i64 ((rd_T84 l0_2 0).f0), .string ((rd_T84 l0_2 0).f1), .slice A201_2 ((rd_T84 l0_2 0).f2).length c201_2], .slice A1 l1.length c1, .int .i64 (wrap64 (a2 + 1))] rfl (by (try simp only [List.map_toArray, List.map_cons, List.map_nil]); first | done | rfl | (simp only [List.length_drop, List.length_take]; rfl)) ?_; (with_reducible refine (ih k (by omega) ((rd_T84 l0_2 0).f0) ((rd_T84 l0_2 0).f1) _ _ ((rd_T84 l0_2 0).f2) _ _ l1 (wrap64 (a2 + 1)) t202 t203 t204 _ ?side1 ?side2 ?side3 ?side4 A68.out).mono ?_); (case side1 => repeat (first | exact (Kd.C_below HR201_2.out HB.out) | (with_reducible refine Kd.C_alloc ?_ _) | (with_reducible refine Kd.C_drewN ?_ _) | (with_reducible refine Kd.C_drew ?_))); (case side2 => exact HC201_2.out); (case side3 => repeat (first | exact (Kd.C_below HR1.out HB.out) | (with_reducible refine Kd.C_alloc ?_ _) | (with_reducible refine Kd.C_drewN ?_ _) | (with_reducible refine Kd.C_drew ?_))); (case side4 => exact HC1.out); rintro e w75 ⟨rfl, hb⟩; refine ⟨_, rfl, ?_⟩; have n0_ := Aside0.mk (blk_below (g := gb177) (o := .cells #[.int .i64 a0_0, .string a0_1, .slice (some ad201) l0_2.length c0_2] 84 (0, 0)) (by (with_reducible repeat (first | refine blk_drewN ?_ _ | refine blk_drew ?_ | refine blk_alloc ?_ _)); exact BK177.out) hb); have n1_ := Aside0.mk (below_step (by repeat (first | (with_reducible first | exact HB.out | apply below_alloc | apply pw_below_drewN | apply below_drew1 | refine below_set ?_ GE177.out) | exact HB.out)) hb); clear BK177; clear HB; have BK177 := n0_; have HB := n1_; clear n0_ n1_; (try clear hb); (try clear hb2); (try clear hk); (try clear hi)))
                          have n0_ := Aside0.mk (blk_drew BK177.out)
                          have n1_ := Aside0.mk (below_drew1 HB.out)
                          clear BK177
                          clear HB
                          have BK177 := n0_
                          have HB := n1_
                          clear n0_ n1_
                          refine start_ (n := 10) (S := fun w' => w'.cell? ⟨gb177, 0, none⟩ = some (.int .i64 a0_0) ∧ w'.cell? ⟨gb177, 1, none⟩ = some (.string a0_1) ∧ w'.cell? ⟨gb177, 2, none⟩ = some (.slice (some ad201) l0_2.length c0_2)) (ds := []) #[false, false, false, false, false, false, false, false, false, false] (by kernel_rfl) rfl rfl ⟨(blk_cell BK177.out 0).trans rfl, (blk_cell BK177.out 1).trans rfl, (blk_cell BK177.out 2).trans rfl⟩ (fun hHeld => ?_); refine with_tabW saplingref13_Mean.tab41 saplingref13_Mean.bits41 (fun HT_ HW_ => ?_)
                          generalize w75.drew = w76 at BK177 HB hHeld ⊢
                          refine pure_ (i := 1) (N := some 162) (v := ?_) (a' := ?_) #[false, true, false, false, false, false, false, false, false, false] rfl rfl (any_of HT_.out (by kernel_rfl)) (fun _ _ _ h => h) (Or.inl ⟨by rfl, ?_⟩) ?_ ?_
                          rotate_left
                          · intro w'
                            go_simp
                            with_reducible rfl
                          rotate_left
                          · simp only [Act.put, List.setIfInBounds_toArray, List.set_cons_zero, List.set_cons_succ, i64_w, i32_w]
                            rfl
                          refine pure_ (i := 3) (N := some 164) (v := ?_) (a' := ?_) #[false, true, false, true, false, false, false, false, false, false] rfl rfl (any_of HT_.out (by kernel_rfl)) (fun _ _ _ h => h) (Or.inl ⟨by rfl, ?_⟩) ?_ ?_
                          rotate_left
                          · intro w'
                            go_simp
                            with_reducible rfl
                          rotate_left
                          · simp only [Act.put, List.setIfInBounds_toArray, List.set_cons_zero, List.set_cons_succ, i64_w, i32_w]
                            rfl
                          refine pure_ (i := 5) (N := some 166) (v := ?_) (a' := ?_) #[false, true, false, true, false, true, false, false, false, false] rfl rfl (any_of HT_.out (by kernel_rfl)) (fun _ _ _ h => h) (Or.inl ⟨by rfl, ?_⟩) ?_ ?_
                          rotate_left
                          · intro w'
                            go_simp
                            with_reducible rfl
                          rotate_left
                          · simp only [Act.put, List.setIfInBounds_toArray, List.set_cons_zero, List.set_cons_succ, i64_w, i32_w]
                            rfl
                          refine take_ (i := 4) (N := some 165) (v := ?_) (a' := ?_) #[false, true, false, true, true, true, false, false, false, false] rfl rfl (take_ofW HT_.out HW_.out (by kernel_rfl)) (fun _ _ _ h => h) (Or.inl ⟨by rfl, ?_⟩) hHeld ?_ ?_
                          rotate_left
                          · rintro w' ⟨s0, s1, s2⟩
                            go_simp
                            with_reducible rfl
                          rotate_left
                          · simp only [Act.put, List.setIfInBounds_toArray, List.set_cons_zero, List.set_cons_succ, i64_w, i32_w]
                            rfl
                          refine pure_ (i := 6) (N := some 167) (v := ?_) (a' := ?_) #[false, true, false, true, true, true, true, false, false, false] rfl rfl (any_of HT_.out (by kernel_rfl)) (fun _ _ _ h => h) (Or.inl ⟨by rfl, ?_⟩) ?_ ?_
                          rotate_left
                          · intro w'
                            go_simp
                            with_reducible rfl
                          rotate_left
                          · simp only [Act.put, List.setIfInBounds_toArray, List.set_cons_zero, List.set_cons_succ, i64_w, i32_w]
                            rfl
                          refine join_ (σ := Value × Value × Value) 2 #[true, true, true, true, true, true, true, true, false, false] (fun s_ => [(161, s_.1), (163, s_.2.1), (168, s_.2.2)]) (fun s_ w' => (w'.cell? ⟨gb177, 0, none⟩ = some (.int .i64 a0_0) ∧ w'.cell? ⟨gb177, 1, none⟩ = some (.string a0_1) ∧ w'.cell? ⟨gb177, 2, none⟩ = some (.slice (some ad201) l0_2.length c0_2)) ∧ (Kd.R k219 219 w' w.heap.size (fun k_ => some k_ ≠ (s_.2.2 : Value).ownBlock) s_.2.1 y208) ∧ (Kd.R k219 219 w' w.heap.size (fun k_ => some k_ ≠ (s_.2.1 : Value).ownBlock) s_.2.2 y211) ∧ (w'.heap[gb177]? = some (.cells #[.int .i64 a0_0, .string a0_1, .slice (some ad201) l0_2.length c0_2] 84 (0, 0))) ∧ (Below w.heap.size w w')) ?_ ?_
                          rotate_left
                          · intro hCont
                            refine two_ (i := 0) (j := 7) (Ni := some 161) (Nj := some 168) #[true, true, false, true, true, true, true, false, false, false] #[false, true, false, true, true, true, true, true, false, false] rfl rfl rfl rfl (two_of HT_.out (by kernel_rfl)) (by decide) (by decide) (fun K hK => ?_) (fun K hK => ?_)
                            · skip
                              refine Kd.R_lit_step k219 _ 219 ?hg (N := 161) ?hd (xs := ([] : List (S219))) (inner := []) (ok := fun _ => True) (okp := fun _ => True) ?hr ?hp (fun _ hk => hk) trivial (Below.refl _ _) (Nat.le_refl _) (by simp) ?_; (case hd => rfl); (case hg => rfl); (case hr => first | (go_simp; done) | (go_simp; rfl)); (case hp => exact (Reps.none _ _))
                              intro v206 w77 ho78 hb hg_ hnew_
                              clear hg_ hnew_
                              (first | rw [← Ny205.out] at ho78 | (simp only [Int.reduceToNat] at ho78; rw [← Ny205.out] at ho78))
                              have n0_ := Aside0.mk (Kd.R_lower ho78 (below_size (by repeat (first | (with_reducible first | exact HB.out | apply below_alloc | apply pw_below_drewN | apply below_drew1 | refine below_set ?_ GE177.out) | exact HB.out))))
                              have n1_ := Aside0.mk (blk_below (g := gb177) (o := .cells #[.int .i64 a0_0, .string a0_1, .slice (some ad201) l0_2.length c0_2] 84 (0, 0)) (by (with_reducible repeat (first | refine blk_drewN ?_ _ | refine blk_drew ?_ | refine blk_alloc ?_ _)); exact BK177.out) hb)
                              have n2_ := Aside0.mk (below_step (by repeat (first | (with_reducible first | exact HB.out | apply below_alloc | apply pw_below_drewN | apply below_drew1 | refine below_set ?_ GE177.out) | exact HB.out)) hb)
                              clear BK177
                              clear HB
                              have HO207 := n0_
                              have BK177 := n1_
                              have HB := n2_
                              clear n0_ n1_ n2_
                              clear hb ho78
                              refine hK.out _ _ ⟨(blk_cell BK177.out 0).trans rfl, (blk_cell BK177.out 1).trans rfl, (blk_cell BK177.out 2).trans rfl⟩ (fun hHeld => ?_)
                              clear hK K
                              refine norm_ (a' := ?_) ?_ ?_
                              rotate_left
                              · show Act.put _ (some 161) _ = _
                                simp only [Act.put, List.setIfInBounds_toArray, List.set_cons_zero, List.set_cons_succ, i64_w, i32_w]
                                rfl
                              refine two_ (i := 2) (j := 7) (Ni := some 163) (Nj := some 168) #[true, true, true, true, true, true, true, false, false, false] #[true, true, false, true, true, true, true, true, false, false] rfl rfl rfl rfl (two_of HT_.out (by kernel_rfl)) (by decide) (by decide) (fun K hK => ?_) (fun K hK => ?_)
                              · skip
                                refine Kd.R_append_rows_step k219 (w0 := w) w.heap.size (by rfl) (.tmp 161) (.tmp 162) 217 219 (.agg #[(.string ⟨#[]⟩), (.string ⟨#[]⟩)]) 32 rfl Tryz.underlying217 info219 rfl (by decide) (by omega) v206 y205 l1 _ _ _ (fun _ => True) (fun _ => False) rfl rfl ?aO ?aR (fun _ _ h => h) (fun _ h => h.elim) ?aF ?aB ?aS ?aL ?_
                                (case aR => repeat (first | exact (Kd.C_below HR1.out HB.out) | (with_reducible refine Kd.C_alloc ?_ _) | (with_reducible refine Kd.C_drewN ?_ _) | (with_reducible refine Kd.C_drew ?_)))
                                (case aB => exact (by repeat (first | (with_reducible first | exact HB.out | apply below_alloc | apply pw_below_drewN | apply below_drew1 | refine below_set ?_ GE177.out) | exact HB.out)))
                                (case aF => exact (fun _ _ => trivial))
                                (case aO => exact (by (with_reducible repeat (first | apply Kd.R_alloc | apply Kd.R_drewN | apply Kd.R_drew)); exact HO207.out))
                                (case aS => exact (below_size (by repeat (first | (with_reducible first | exact HB.out | apply below_alloc | apply pw_below_drewN | apply below_drew1 | refine below_set ?_ GE177.out) | exact HB.out))))
                                (case aL => have := LMc70.out; omega)
                                intro v209 w79 ho hb hg hat
                                rw [← Ny208.out] at ho
                                have n0_ := Aside0.mk (blk_grown (g := gb177) (o := .cells #[.int .i64 a0_0, .string a0_1, .slice (some ad201) l0_2.length c0_2] 84 (0, 0)) (by (with_reducible repeat (first | refine blk_drewN ?_ _ | refine blk_drew ?_ | refine blk_alloc ?_ _)); exact BK177.out) hg (Kd.R_ne HO207.out BK177.out (by decide)))
                                have n1_ := Aside0.mk (hb)
                                have n2_ := Aside0.mk (ho)
                                clear BK177
                                clear HB
                                clear HO207
                                have BK177 := n0_
                                have HB := n1_
                                have HO210 := n2_
                                clear n0_ n1_ n2_
                                clear ho hb hg hat
                                refine hK.out _ _ ⟨(blk_cell BK177.out 0).trans rfl, (blk_cell BK177.out 1).trans rfl, (blk_cell BK177.out 2).trans rfl⟩ (fun hHeld => ?_)
                                clear hK K
                                refine norm_ (a' := ?_) ?_ ?_
                                rotate_left
                                · show Act.put _ (some 163) _ = _
                                  simp only [Act.put, List.setIfInBounds_toArray, List.set_cons_zero, List.set_cons_succ, i64_w, i32_w]
                                  rfl
                                refine one_ (i := 7) (N := some 168) #[true, true, true, true, true, true, true, true, false, false] rfl rfl (one_of HT_.out (by kernel_rfl)) (by decide) (fun K hK => ?_)
                                refine Kd.R_lit_step k219 _ 219 ?hg (N := 168) ?hd (xs := ([(⟨a0_1, t202⟩ : S219)] : List (S219))) (inner := [.string a0_1, .string t202]) (ok := fun _ => True) (okp := fun _ => True) ?hr ?hp (fun _ hk => hk) trivial (Below.refl _ _) (Nat.le_refl _) (by simp) ?_; (case hd => rfl); (case hg => rfl); (case hr => first | (go_simp; done) | (go_simp; rfl)); (case hp => exact (Reps.c2 (show Kd.M k219 _ _ _ (⟨a0_1, t202⟩ : S219) [.string a0_1, .string t202] from (k219_mkM _ _ _ (⟨a0_1, t202⟩ : S219) )) (Reps.none _ _)))
                                intro v212 w80 ho81 hb hg_ hnew_
                                clear hg_ hnew_
                                (first | rw [← Ny211.out] at ho81 | (simp only [Int.reduceToNat] at ho81; rw [← Ny211.out] at ho81))
                                have n0_ := Aside0.mk (Kd.R_elder' (by (with_reducible repeat (first | apply Kd.R_alloc | apply Kd.R_drewN | apply Kd.R_drew)); exact HO210.out) (Kd.R_base ho81) hb)
                                have n1_ := Aside0.mk (Kd.R_lower (Kd.R_new' ho81 (Kd.R_lt (by (with_reducible repeat (first | apply Kd.R_alloc | apply Kd.R_drewN | apply Kd.R_drew)); exact HO210.out))) (below_size (by repeat (first | (with_reducible first | exact HB.out | apply below_alloc | apply pw_below_drewN | apply below_drew1 | refine below_set ?_ GE177.out) | exact HB.out))))
                                have n2_ := Aside0.mk (blk_below (g := gb177) (o := .cells #[.int .i64 a0_0, .string a0_1, .slice (some ad201) l0_2.length c0_2] 84 (0, 0)) (by (with_reducible repeat (first | refine blk_drewN ?_ _ | refine blk_drew ?_ | refine blk_alloc ?_ _)); exact BK177.out) hb)
                                have n3_ := Aside0.mk (below_step (by repeat (first | (with_reducible first | exact HB.out | apply below_alloc | apply pw_below_drewN | apply below_drew1 | refine below_set ?_ GE177.out) | exact HB.out)) hb)
                                clear HO210
                                clear BK177
                                clear HB
                                have HO210 := n0_
                                have HO213 := n1_
                                have BK177 := n2_
                                have HB := n3_
                                clear n0_ n1_ n2_ n3_
                                clear hb ho81
                                refine hK.out _ _ ⟨(blk_cell BK177.out 0).trans rfl, (blk_cell BK177.out 1).trans rfl, (blk_cell BK177.out 2).trans rfl⟩ (fun hHeld => ?_)
                                clear hK K
                                refine norm_ (a' := ?_) ?_ ?_
                                rotate_left
                                · show Act.put _ (some 168) _ = _
                                  simp only [Act.put, List.setIfInBounds_toArray, List.set_cons_zero, List.set_cons_succ, i64_w, i32_w]
                                  rfl
                                exact norm_ (by simp only [putAll, Act.put, List.setIfInBounds_toArray, List.set_cons_zero, List.set_cons_succ]) (hCont (v206, v209, v212) _ ⟨hHeld, (by (with_reducible repeat (first | apply Kd.R_alloc | apply Kd.R_drewN | apply Kd.R_drew)); exact Kd.R_mono HO210.out (fun _ hk => hk.2)), (by (with_reducible repeat (first | apply Kd.R_alloc | apply Kd.R_drewN | apply Kd.R_drew)); exact Kd.R_mono HO213.out (fun _ hk => hk.2)), (by (with_reducible repeat (first | refine blk_drewN ?_ _ | refine blk_drew ?_ | refine blk_alloc ?_ _)); exact BK177.out), (by repeat (first | (with_reducible first | exact HB.out | apply below_alloc | apply pw_below_drewN | apply below_drew1 | refine below_set ?_ GE177.out) | exact HB.out))⟩)
                              · skip
                                refine Kd.R_lit_step k219 _ 219 ?hg (N := 168) ?hd (xs := ([(⟨a0_1, t202⟩ : S219)] : List (S219))) (inner := [.string a0_1, .string t202]) (ok := fun _ => True) (okp := fun _ => True) ?hr ?hp (fun _ hk => hk) trivial (Below.refl _ _) (Nat.le_refl _) (by simp) ?_; (case hd => rfl); (case hg => rfl); (case hr => first | (go_simp; done) | (go_simp; rfl)); (case hp => exact (Reps.c2 (show Kd.M k219 _ _ _ (⟨a0_1, t202⟩ : S219) [.string a0_1, .string t202] from (k219_mkM _ _ _ (⟨a0_1, t202⟩ : S219) )) (Reps.none _ _)))
                                intro v212 w79 ho80 hb hg_ hnew_
                                clear hg_ hnew_
                                (first | rw [← Ny211.out] at ho80 | (simp only [Int.reduceToNat] at ho80; rw [← Ny211.out] at ho80))
                                have n0_ := Aside0.mk (Kd.R_elder' (by (with_reducible repeat (first | apply Kd.R_alloc | apply Kd.R_drewN | apply Kd.R_drew)); exact HO207.out) (Kd.R_base ho80) hb)
                                have n1_ := Aside0.mk (Kd.R_lower (Kd.R_new' ho80 (Kd.R_lt (by (with_reducible repeat (first | apply Kd.R_alloc | apply Kd.R_drewN | apply Kd.R_drew)); exact HO207.out))) (below_size (by repeat (first | (with_reducible first | exact HB.out | apply below_alloc | apply pw_below_drewN | apply below_drew1 | refine below_set ?_ GE177.out) | exact HB.out))))
                                have n2_ := Aside0.mk (blk_below (g := gb177) (o := .cells #[.int .i64 a0_0, .string a0_1, .slice (some ad201) l0_2.length c0_2] 84 (0, 0)) (by (with_reducible repeat (first | refine blk_drewN ?_ _ | refine blk_drew ?_ | refine blk_alloc ?_ _)); exact BK177.out) hb)
                                have n3_ := Aside0.mk (below_step (by repeat (first | (with_reducible first | exact HB.out | apply below_alloc | apply pw_below_drewN | apply below_drew1 | refine below_set ?_ GE177.out) | exact HB.out)) hb)
                                clear HO207
                                clear BK177
                                clear HB
                                have HO207 := n0_
                                have HO213 := n1_
                                have BK177 := n2_
                                have HB := n3_
                                clear n0_ n1_ n2_ n3_
                                clear hb ho80
                                refine hK.out _ _ ⟨(blk_cell BK177.out 0).trans rfl, (blk_cell BK177.out 1).trans rfl, (blk_cell BK177.out 2).trans rfl⟩ (fun hHeld => ?_)
                                clear hK K
                                refine norm_ (a' := ?_) ?_ ?_
                                rotate_left
                                · show Act.put _ (some 168) _ = _
                                  simp only [Act.put, List.setIfInBounds_toArray, List.set_cons_zero, List.set_cons_succ, i64_w, i32_w]
                                  rfl
                                refine one_ (i := 2) (N := some 163) #[true, true, true, true, true, true, true, true, false, false] rfl rfl (one_of HT_.out (by kernel_rfl)) (by decide) (fun K hK => ?_)
                                refine Kd.R_append_rows_step k219 (w0 := w) w.heap.size (by rfl) (.tmp 161) (.tmp 162) 217 219 (.agg #[(.string ⟨#[]⟩), (.string ⟨#[]⟩)]) 32 rfl Tryz.underlying217 info219 rfl (by decide) (by omega) v206 y205 l1 _ _ _ (fun k_ => some k_ ≠ (v212 : Value).ownBlock) (fun _ => False) rfl rfl ?aO ?aR (fun _ _ h => h) (fun _ h => h.elim) ?aF ?aB ?aS ?aL ?_
                                (case aR => repeat (first | exact (Kd.C_below HR1.out HB.out) | (with_reducible refine Kd.C_alloc ?_ _) | (with_reducible refine Kd.C_drewN ?_ _) | (with_reducible refine Kd.C_drew ?_)))
                                (case aB => exact (by repeat (first | (with_reducible first | exact HB.out | apply below_alloc | apply pw_below_drewN | apply below_drew1 | refine below_set ?_ GE177.out) | exact HB.out)))
                                (case aF => exact (fun k_ hk => Kd.fresh' (Kd.R_lt (by (with_reducible repeat (first | apply Kd.R_alloc | apply Kd.R_drewN | apply Kd.R_drew)); exact HO213.out)) k_ hk))
                                (case aO => exact (by (with_reducible repeat (first | apply Kd.R_alloc | apply Kd.R_drewN | apply Kd.R_drew)); exact Kd.R_mono HO207.out (fun _ hk => hk.2)))
                                (case aS => exact (below_size (by repeat (first | (with_reducible first | exact HB.out | apply below_alloc | apply pw_below_drewN | apply below_drew1 | refine below_set ?_ GE177.out) | exact HB.out))))
                                (case aL => have := LMc70.out; omega)
                                intro v209 w81 ho hb hg hat
                                rw [← Ny208.out] at ho
                                have n0_ := Aside0.mk (blk_grown (g := gb177) (o := .cells #[.int .i64 a0_0, .string a0_1, .slice (some ad201) l0_2.length c0_2] 84 (0, 0)) (by (with_reducible repeat (first | refine blk_drewN ?_ _ | refine blk_drew ?_ | refine blk_alloc ?_ _)); exact BK177.out) hg (Kd.R_ne HO207.out BK177.out (by decide)))
                                have n1_ := Aside0.mk (Kd.R_after (ok := (fun _ => True)) (by (with_reducible repeat (first | apply Kd.R_alloc | apply Kd.R_drewN | apply Kd.R_drew)); exact HO213.out) hg hat)
                                have n2_ := Aside0.mk (hb)
                                have n3_ := Aside0.mk (ho)
                                clear BK177
                                clear HO213
                                clear HB
                                clear HO207
                                have BK177 := n0_
                                have HO213 := n1_
                                have HB := n2_
                                have HO210 := n3_
                                clear n0_ n1_ n2_ n3_
                                clear ho hb hg hat
                                refine hK.out _ _ ⟨(blk_cell BK177.out 0).trans rfl, (blk_cell BK177.out 1).trans rfl, (blk_cell BK177.out 2).trans rfl⟩ (fun hHeld => ?_)
                                clear hK K
                                refine norm_ (a' := ?_) ?_ ?_
                                rotate_left
                                · show Act.put _ (some 163) _ = _
                                  simp only [Act.put, List.setIfInBounds_toArray, List.set_cons_zero, List.set_cons_succ, i64_w, i32_w]
                                  rfl
                                exact norm_ (by simp only [putAll, Act.put, List.setIfInBounds_toArray, List.set_cons_zero, List.set_cons_succ]) (hCont (v206, v209, v212) _ ⟨hHeld, (by (with_reducible repeat (first | apply Kd.R_alloc | apply Kd.R_drewN | apply Kd.R_drew)); exact HO210.out), (by (with_reducible repeat (first | apply Kd.R_alloc | apply Kd.R_drewN | apply Kd.R_drew)); exact Kd.R_mono HO213.out (fun _ hk => hk.2)), (by (with_reducible repeat (first | refine blk_drewN ?_ _ | refine blk_drew ?_ | refine blk_alloc ?_ _)); exact BK177.out), (by repeat (first | (with_reducible first | exact HB.out | apply below_alloc | apply pw_below_drewN | apply below_drew1 | refine below_set ?_ GE177.out) | exact HB.out))⟩)
                            · skip
                              refine Kd.R_lit_step k219 _ 219 ?hg (N := 168) ?hd (xs := ([(⟨a0_1, t202⟩ : S219)] : List (S219))) (inner := [.string a0_1, .string t202]) (ok := fun _ => True) (okp := fun _ => True) ?hr ?hp (fun _ hk => hk) trivial (Below.refl _ _) (Nat.le_refl _) (by simp) ?_; (case hd => rfl); (case hg => rfl); (case hr => first | (go_simp; done) | (go_simp; rfl)); (case hp => exact (Reps.c2 (show Kd.M k219 _ _ _ (⟨a0_1, t202⟩ : S219) [.string a0_1, .string t202] from (k219_mkM _ _ _ (⟨a0_1, t202⟩ : S219) )) (Reps.none _ _)))
                              intro v212 w77 ho78 hb hg_ hnew_
                              clear hg_ hnew_
                              (first | rw [← Ny211.out] at ho78 | (simp only [Int.reduceToNat] at ho78; rw [← Ny211.out] at ho78))
                              have n0_ := Aside0.mk (Kd.R_lower ho78 (below_size (by repeat (first | (with_reducible first | exact HB.out | apply below_alloc | apply pw_below_drewN | apply below_drew1 | refine below_set ?_ GE177.out) | exact HB.out))))
                              have n1_ := Aside0.mk (blk_below (g := gb177) (o := .cells #[.int .i64 a0_0, .string a0_1, .slice (some ad201) l0_2.length c0_2] 84 (0, 0)) (by (with_reducible repeat (first | refine blk_drewN ?_ _ | refine blk_drew ?_ | refine blk_alloc ?_ _)); exact BK177.out) hb)
                              have n2_ := Aside0.mk (below_step (by repeat (first | (with_reducible first | exact HB.out | apply below_alloc | apply pw_below_drewN | apply below_drew1 | refine below_set ?_ GE177.out) | exact HB.out)) hb)
                              clear BK177
                              clear HB
                              have HO213 := n0_
                              have BK177 := n1_
                              have HB := n2_
                              clear n0_ n1_ n2_
                              clear hb ho78
                              refine hK.out _ _ ⟨(blk_cell BK177.out 0).trans rfl, (blk_cell BK177.out 1).trans rfl, (blk_cell BK177.out 2).trans rfl⟩ (fun hHeld => ?_)
                              clear hK K
                              refine norm_ (a' := ?_) ?_ ?_
                              rotate_left
                              · show Act.put _ (some 168) _ = _
                                simp only [Act.put, List.setIfInBounds_toArray, List.set_cons_zero, List.set_cons_succ, i64_w, i32_w]
                                rfl
                              refine one_ (i := 0) (N := some 161) #[true, true, false, true, true, true, true, true, false, false] rfl rfl (one_of HT_.out (by kernel_rfl)) (by decide) (fun K hK => ?_)
                              refine Kd.R_lit_step k219 _ 219 ?hg (N := 161) ?hd (xs := ([] : List (S219))) (inner := []) (ok := fun _ => True) (okp := fun _ => True) ?hr ?hp (fun _ hk => hk) trivial (Below.refl _ _) (Nat.le_refl _) (by simp) ?_; (case hd => rfl); (case hg => rfl); (case hr => first | (go_simp; done) | (go_simp; rfl)); (case hp => exact (Reps.none _ _))
                              intro v206 w79 ho80 hb hg_ hnew_
                              clear hg_ hnew_
                              (first | rw [← Ny205.out] at ho80 | (simp only [Int.reduceToNat] at ho80; rw [← Ny205.out] at ho80))
                              have n0_ := Aside0.mk (Kd.R_elder' (by (with_reducible repeat (first | apply Kd.R_alloc | apply Kd.R_drewN | apply Kd.R_drew)); exact HO213.out) (Kd.R_base ho80) hb)
                              have n1_ := Aside0.mk (Kd.R_lower (Kd.R_new' ho80 (Kd.R_lt (by (with_reducible repeat (first | apply Kd.R_alloc | apply Kd.R_drewN | apply Kd.R_drew)); exact HO213.out))) (below_size (by repeat (first | (with_reducible first | exact HB.out | apply below_alloc | apply pw_below_drewN | apply below_drew1 | refine below_set ?_ GE177.out) | exact HB.out))))
                              have n2_ := Aside0.mk (blk_below (g := gb177) (o := .cells #[.int .i64 a0_0, .string a0_1, .slice (some ad201) l0_2.length c0_2] 84 (0, 0)) (by (with_reducible repeat (first | refine blk_drewN ?_ _ | refine blk_drew ?_ | refine blk_alloc ?_ _)); exact BK177.out) hb)
                              have n3_ := Aside0.mk (below_step (by repeat (first | (with_reducible first | exact HB.out | apply below_alloc | apply pw_below_drewN | apply below_drew1 | refine below_set ?_ GE177.out) | exact HB.out)) hb)
                              clear HO213
                              clear BK177
                              clear HB
                              have HO213 := n0_
                              have HO207 := n1_
                              have BK177 := n2_
                              have HB := n3_
                              clear n0_ n1_ n2_ n3_
                              clear hb ho80
                              refine hK.out _ _ ⟨(blk_cell BK177.out 0).trans rfl, (blk_cell BK177.out 1).trans rfl, (blk_cell BK177.out 2).trans rfl⟩ (fun hHeld => ?_)
                              clear hK K
                              refine norm_ (a' := ?_) ?_ ?_
                              rotate_left
                              · show Act.put _ (some 161) _ = _
                                simp only [Act.put, List.setIfInBounds_toArray, List.set_cons_zero, List.set_cons_succ, i64_w, i32_w]
                                rfl
                              refine one_ (i := 2) (N := some 163) #[true, true, true, true, true, true, true, true, false, false] rfl rfl (one_of HT_.out (by kernel_rfl)) (by decide) (fun K hK => ?_)
                              refine Kd.R_append_rows_step k219 (w0 := w) w.heap.size (by rfl) (.tmp 161) (.tmp 162) 217 219 (.agg #[(.string ⟨#[]⟩), (.string ⟨#[]⟩)]) 32 rfl Tryz.underlying217 info219 rfl (by decide) (by omega) v206 y205 l1 _ _ _ (fun k_ => some k_ ≠ (v212 : Value).ownBlock) (fun _ => False) rfl rfl ?aO ?aR (fun _ _ h => h) (fun _ h => h.elim) ?aF ?aB ?aS ?aL ?_
                              (case aR => repeat (first | exact (Kd.C_below HR1.out HB.out) | (with_reducible refine Kd.C_alloc ?_ _) | (with_reducible refine Kd.C_drewN ?_ _) | (with_reducible refine Kd.C_drew ?_)))
                              (case aB => exact (by repeat (first | (with_reducible first | exact HB.out | apply below_alloc | apply pw_below_drewN | apply below_drew1 | refine below_set ?_ GE177.out) | exact HB.out)))
                              (case aF => exact (fun k_ hk => Kd.fresh' (Kd.R_lt (by (with_reducible repeat (first | apply Kd.R_alloc | apply Kd.R_drewN | apply Kd.R_drew)); exact HO213.out)) k_ hk))
                              (case aO => exact (by (with_reducible repeat (first | apply Kd.R_alloc | apply Kd.R_drewN | apply Kd.R_drew)); exact Kd.R_mono HO207.out (fun _ hk => hk.2)))
                              (case aS => exact (below_size (by repeat (first | (with_reducible first | exact HB.out | apply below_alloc | apply pw_below_drewN | apply below_drew1 | refine below_set ?_ GE177.out) | exact HB.out))))
                              (case aL => have := LMc70.out; omega)
                              intro v209 w81 ho hb hg hat
                              rw [← Ny208.out] at ho
                              have n0_ := Aside0.mk (blk_grown (g := gb177) (o := .cells #[.int .i64 a0_0, .string a0_1, .slice (some ad201) l0_2.length c0_2] 84 (0, 0)) (by (with_reducible repeat (first | refine blk_drewN ?_ _ | refine blk_drew ?_ | refine blk_alloc ?_ _)); exact BK177.out) hg (Kd.R_ne HO207.out BK177.out (by decide)))
                              have n1_ := Aside0.mk (Kd.R_after (ok := (fun _ => True)) (by (with_reducible repeat (first | apply Kd.R_alloc | apply Kd.R_drewN | apply Kd.R_drew)); exact HO213.out) hg hat)
                              have n2_ := Aside0.mk (hb)
                              have n3_ := Aside0.mk (ho)
                              clear BK177
                              clear HO213
                              clear HB
                              clear HO207
                              have BK177 := n0_
                              have HO213 := n1_
                              have HB := n2_
                              have HO210 := n3_
                              clear n0_ n1_ n2_ n3_
                              clear ho hb hg hat
                              refine hK.out _ _ ⟨(blk_cell BK177.out 0).trans rfl, (blk_cell BK177.out 1).trans rfl, (blk_cell BK177.out 2).trans rfl⟩ (fun hHeld => ?_)
                              clear hK K
                              refine norm_ (a' := ?_) ?_ ?_
                              rotate_left
                              · show Act.put _ (some 163) _ = _
                                simp only [Act.put, List.setIfInBounds_toArray, List.set_cons_zero, List.set_cons_succ, i64_w, i32_w]
                                rfl
                              exact norm_ (by simp only [putAll, Act.put, List.setIfInBounds_toArray, List.set_cons_zero, List.set_cons_succ]) (hCont (v206, v209, v212) _ ⟨hHeld, (by (with_reducible repeat (first | apply Kd.R_alloc | apply Kd.R_drewN | apply Kd.R_drew)); exact HO210.out), (by (with_reducible repeat (first | apply Kd.R_alloc | apply Kd.R_drewN | apply Kd.R_drew)); exact Kd.R_mono HO213.out (fun _ hk => hk.2)), (by (with_reducible repeat (first | refine blk_drewN ?_ _ | refine blk_drew ?_ | refine blk_alloc ?_ _)); exact BK177.out), (by repeat (first | (with_reducible first | exact HB.out | apply below_alloc | apply pw_below_drewN | apply below_drew1 | refine below_set ?_ GE177.out) | exact HB.out))⟩)
                          rintro ⟨v206, v209, v212⟩ w82 ⟨hS_, h0_, h1_, h2_, h3_⟩
                          have n0_ : Aside0 (Kd.R k219 219 w82 w.heap.size (fun k_ => some k_ ≠ (v212 : Value).ownBlock) v209 y208) := ⟨h0_⟩
                          have n1_ : Aside0 (Kd.R k219 219 w82 w.heap.size (fun k_ => some k_ ≠ (v209 : Value).ownBlock) v212 y211) := ⟨h1_⟩
                          have n2_ : Aside0 (w82.heap[gb177]? = some (.cells #[.int .i64 a0_0, .string a0_1, .slice (some ad201) l0_2.length c0_2] 84 (0, 0))) := ⟨h2_⟩
                          have n3_ : Aside0 (Below w.heap.size w w82) := ⟨h3_⟩
                          clear BK177
                          clear HB
                          clear h0_ h1_ h2_ h3_
                          have HO210 := n0_
                          have HO213 := n1_
                          have BK177 := n2_
                          have HB := n3_
                          clear n0_ n1_ n2_ n3_
                          have hHeld : w82.cell? ⟨gb177, 0, none⟩ = some (.int .i64 a0_0) ∧ w82.cell? ⟨gb177, 1, none⟩ = some (.string a0_1) ∧ w82.cell? ⟨gb177, 2, none⟩ = some (.slice (some ad201) l0_2.length c0_2) := hS_
                          obtain ⟨Ao84, co84, eo84⟩ := Kd.R_slice HO213.out
                          (first | subst eo84 | (injection eo84 with f1_ f2_ f3_; have f4_ := f1_.symm; have f5_ := f3_.symm; clear f1_ f2_ f3_; subst f4_; subst f5_))
                          refine norm_ (a' := ?_) ?_ ?_
                          rotate_left
                          · simp only [putAll, Act.put, List.setIfInBounds_toArray, List.set_cons_zero, List.set_cons_succ]
                            rfl
                          refine one_ (i := 8) (N := some 169) #[true, true, true, true, true, true, true, true, true, false] rfl rfl (one_of HT_.out (by kernel_rfl)) (by decide) (fun K hK => ?_)
                          refine Kd.R_append_rows_step k219 (w0 := w) w.heap.size (by rfl) (.tmp 163) (.tmp 168) 217 219 (.agg #[(.string ⟨#[]⟩), (.string ⟨#[]⟩)]) 32 rfl Tryz.underlying217 info219 rfl (by decide) (by omega) v209 y208 y211 _ _ _ (fun k_ => some k_ ≠ (.slice Ao84 y211.length co84 : Value).ownBlock) (fun _ => False) rfl rfl ?aO ?aR (fun _ _ h => h) (fun _ h => h.elim) ?aF ?aB ?aS ?aL ?_
                          (case aR => repeat (first | exact (Kd.R_reads' HO213.out).2.2 | (with_reducible refine Kd.C_alloc ?_ _) | (with_reducible refine Kd.C_drewN ?_ _) | (with_reducible refine Kd.C_drew ?_)))
                          (case aB => exact (by repeat (first | (with_reducible first | exact HB.out | apply below_alloc | apply pw_below_drewN | apply below_drew1 | refine below_set ?_ GE177.out) | exact HB.out)))
                          (case aF => exact (fun k_ hk => Kd.fresh' (Kd.R_lt (by (with_reducible repeat (first | apply Kd.R_alloc | apply Kd.R_drewN | apply Kd.R_drew)); exact HO213.out)) k_ hk))
                          (case aO => exact (by (with_reducible repeat (first | apply Kd.R_alloc | apply Kd.R_drewN | apply Kd.R_drew)); exact HO210.out))
                          (case aS => exact (below_size (by repeat (first | (with_reducible first | exact HB.out | apply below_alloc | apply pw_below_drewN | apply below_drew1 | refine below_set ?_ GE177.out) | exact HB.out))))
                          (case aL => have := LMc71.out; omega)
                          intro v215 w83 ho hb hg hat
                          rw [← Ny214.out] at ho
                          have n0_ := Aside0.mk (blk_grown (g := gb177) (o := .cells #[.int .i64 a0_0, .string a0_1, .slice (some ad201) l0_2.length c0_2] 84 (0, 0)) (by (with_reducible repeat (first | refine blk_drewN ?_ _ | refine blk_drew ?_ | refine blk_alloc ?_ _)); exact BK177.out) hg (Kd.R_ne HO210.out BK177.out (by decide)))
                          have n1_ := Aside0.mk (Kd.R_after (ok := (fun _ => True)) (by (with_reducible repeat (first | apply Kd.R_alloc | apply Kd.R_drewN | apply Kd.R_drew)); exact Kd.R_mono HO213.out (fun _ hk => ⟨trivial, hk⟩)) hg hat)
                          have n2_ := Aside0.mk (hb)
                          have n3_ := Aside0.mk (ho)
                          clear BK177
                          clear HO213
                          clear HB
                          clear HO210
                          have BK177 := n0_
                          have HO213 := n1_
                          have HB := n2_
                          have HO216 := n3_
                          clear n0_ n1_ n2_ n3_
                          clear ho hb hg hat
                          refine hK.out _ _ ⟨(blk_cell BK177.out 0).trans rfl, (blk_cell BK177.out 1).trans rfl, (blk_cell BK177.out 2).trans rfl⟩ (fun hHeld => ?_)
                          clear hK K
                          refine norm_ (a' := ?_) ?_ ?_
                          rotate_left
                          · show Act.put _ (some 169) _ = _
                            simp only [Act.put, List.setIfInBounds_toArray, List.set_cons_zero, List.set_cons_succ, i64_w, i32_w]
                            rfl
                          refine pure_ (i := 9) (N := some 24) (v := ?_) (a' := ?_) #[true, true, true, true, true, true, true, true, true, true] rfl rfl (any_of HT_.out (by kernel_rfl)) (fun _ _ _ h => h) (Or.inl ⟨by rfl, ?_⟩) ?_ ?_
                          rotate_left
                          · intro w'
                            go_simp
                            with_reducible rfl
                          rotate_left
                          · simp only [Act.put, List.setIfInBounds_toArray, List.set_cons_zero, List.set_cons_succ, i64_w, i32_w]
                            rfl
                          refine done_ (done_of HT_.out (by kernel_rfl)) ?_
                          have hcz85_0 : w83.cell? ⟨gb177, 0, none⟩ = some (.int .i64 a0_0) := (blk_cell BK177.out 0).trans rfl
                          have hcz85_1 : w83.cell? ⟨gb177, 1, none⟩ = some (.string a0_1) := (blk_cell BK177.out 1).trans rfl
                          have hcz85_2 : w83.cell? ⟨gb177, 2, none⟩ = some (.slice (some ad201) l0_2.length c0_2) := (blk_cell BK177.out 2).trans rfl
                          have hfz85_0 := blk_frozen BK177.out 0
                          have hfz85_1 := blk_frozen BK177.out 1
                          have hfz85_2 := blk_frozen BK177.out 2
                          have p217 : 0 ≤ (1 : Int) := (by omega)
                          have q217 : 1 < (l0_2.length : Int) := of_decide_eq_true (by first | (with_reducible assumption) | assumption)
                          obtain ⟨ad217, A217_2, c217_2, e217, hx217_0, hx217_1, hx217_2, hl217_2, hi217_2⟩ := at_T84 HR0_2.out 1 p217 q217
                          obtain rfl : ad201 = ad217 := (by injection e217)
                          (try simp only [show (1 : Int).toNat = 1 from rfl, Nat.reduceMul, Nat.reduceEqDiff, Go.Addr.add, ↓reduceIte] at hx217_0)
                          (try simp only [show (1 : Int).toNat = 1 from rfl, Nat.reduceMul, Nat.reduceEqDiff, Go.Addr.add, ↓reduceIte] at hx217_1)
                          (try simp only [show (1 : Int).toNat = 1 from rfl, Nat.reduceMul, Nat.reduceEqDiff, Go.Addr.add, ↓reduceIte] at hx217_2)
                          have qi217 : (1 < l0_2.length) = True := eq_true (by omega)
                          (try rw [show ((1 : Int)).toNat = 1 from rfl] at hx217_0)
                          (try rw [show 1 * 3 = 3 from rfl] at hx217_0)
                          (try rw [show ((1 : Int)).toNat = 1 from rfl] at hx217_1)
                          (try rw [show 1 * 3 = 3 from rfl] at hx217_1)
                          (try rw [show ((1 : Int)).toNat = 1 from rfl] at hx217_2)
                          (try rw [show 1 * 3 = 3 from rfl] at hx217_2)
                          replace hx217_0 := (HB.out.cell (World.block_lt_of_cell? w _ hx217_0)).trans hx217_0
                          replace hx217_1 := (HB.out.cell (World.block_lt_of_cell? w _ hx217_1)).trans hx217_1
                          replace hx217_2 := (HB.out.cell (World.block_lt_of_cell? w _ hx217_2)).trans hx217_2
                          have HR217_2 := Aside0.mk hi217_2
                          have HC217_2 := Aside0.mk hl217_2
                          clear hi217_2 hl217_2
                          replace p217 := eq_true p217
                          replace q217 := eq_true q217
                          obtain ⟨Ao86, co86, eo86⟩ := Kd.R_slice HO216.out
                          subst eo86
                          try go_wp2_with (first | ((with_reducible refine gate_callee (f := 84) rfl ?_); refine goesL_ (some 177) rfl rfl Tryz.func84 (by kernel_rfl) rfl #[.agg #[.int .i64 ((rd_T84 l0_2 1).f0), .string ((rd_T84 l0_2 1).f1), .slice A217_2 ((rd_T84 l0_2 1).f2).length c217_2], .slice Ao86 y214.length co86, .int .i64 t203] rfl (by (try simp only [List.map_toArray, List.map_cons, List.map_nil]); first | done | rfl | (simp only [List.length_drop, List.length_take]; rfl)) ?_; (with_reducible refine (ih k (by omega) ((rd_T84 l0_2 1).f0) ((rd_T84 l0_2 1).f1) _ _ ((rd_T84 l0_2 1).f2) _ _ y214 t203 t218 t219 t220 _ ?side1 ?side2 ?side3 ?side4 A73.out).mono ?_); (case side1 => repeat (first | exact (Kd.C_below HR217_2.out HB.out) | (with_reducible refine Kd.C_alloc ?_ _) | (with_reducible refine Kd.C_drewN ?_ _) | (with_reducible refine Kd.C_drew ?_))); (case side2 => exact HC217_2.out); (case side3 => repeat (first | exact (Kd.R_reads' HO216.out).2.2 | (with_reducible refine Kd.C_alloc ?_ _) | (with_reducible refine Kd.C_drewN ?_ _) | (with_reducible refine Kd.C_drew ?_))); (case side4 => exact (Kd.R_reads' HO216.out).2.1); rintro e w87 ⟨rfl, hb⟩; refine ⟨_, rfl, ?_⟩; have n0_ := Aside0.mk (Kd.R_below (by (with_reducible repeat (first | apply Kd.R_alloc | apply Kd.R_drewN | apply Kd.R_drew)); exact HO213.out) hb); have n1_ := Aside0.mk (Kd.R_below (by (with_reducible repeat (first | apply Kd.R_alloc | apply Kd.R_drewN | apply Kd.R_drew)); exact HO216.out) hb); have n2_ := Aside0.mk (blk_below (g := gb177) (o := .cells #[.int .i64 a0_0, .string a0_1, .slice (some ad201) l0_2.length c0_2] 84 (0, 0)) (by (with_reducible repeat (first | refine blk_drewN ?_ _ | refine blk_drew ?_ | refine blk_alloc ?_ _)); exact BK177.out) hb); have n3_ := Aside0.mk (below_step (by repeat (first | (with_reducible first | exact HB.out | apply below_alloc | apply pw_below_drewN | apply below_drew1 | refine below_set ?_ GE177.out) | exact HB.out)) hb); clear HO213; clear HO216; clear BK177; clear HB; have HO213 := n0_; have HO216 := n1_; have BK177 := n2_; have HB := n3_; clear n0_ n1_ n2_ n3_; (try clear hb); (try clear hb2); (try clear hk); (try clear hi)))
                          go_meet
                          case rel => exact ⟨_, (t219), (t218), (t220), (by first | rfl | (simp; done) | (simp [*]; done) | (have e_ : ∀ l : List UInt8, (l != []) = !l.isEmpty := (fun l => by cases l <;> rfl); simp [e_]; done)), (by first | rfl | (simp; done) | (simp [*]; done) | (have e_ : ∀ l : List UInt8, (l != []) = !l.isEmpty := (fun l => by cases l <;> rfl); simp [e_]; done)), (by first | rfl | (simp; done) | (simp [*]; done) | (have e_ : ∀ l : List UInt8, (l != []) = !l.isEmpty := (fun l => by cases l <;> rfl); simp [e_]; done)), H', ⟨by first | omega | exact Nat.le_refl _⟩, ⟨by repeat (first | (with_reducible first | exact HB.out | apply below_alloc | apply pw_below_drewN | apply below_drew1 | refine below_set ?_ GE177.out) | exact HB.out)⟩⟩
                        · rw [if_neg c72] at H
                          exact absurd H (by simp)
                      · rw [if_neg c71] at H
                        exact absurd H (by simp)
                    · rw [if_neg c70] at H
                      exact absurd H (by simp)
                  · rw [if_neg c69] at H
                    have c69b0 : (t204 == 0) = false := beq_eq_false_iff_ne.mpr c69
                    have c69b1 : (t204 != 0) = true := bne_iff_ne.mpr c69
                    simp only [Option.some.injEq, Prod.mk.injEq] at H
                    obtain ⟨rfl, rfl, rfl⟩ := H
                    have hcz88_0 : w7.cell? ⟨gb177, 0, none⟩ = some (.int .i64 a0_0) := (blk_cell BK177.out 0).trans rfl
                    have hcz88_1 : w7.cell? ⟨gb177, 1, none⟩ = some (.string a0_1) := (blk_cell BK177.out 1).trans rfl
                    have hcz88_2 : w7.cell? ⟨gb177, 2, none⟩ = some (.slice A0_2 l0_2.length c0_2) := (blk_cell BK177.out 2).trans rfl
                    have hfz88_0 := blk_frozen BK177.out 0
                    have hfz88_1 := blk_frozen BK177.out 1
                    have hfz88_2 := blk_frozen BK177.out 2
                    have p201 : 0 ≤ (0 : Int) := (by omega)
                    have q201 : 0 < (l0_2.length : Int) := of_decide_eq_true (by first | (with_reducible assumption) | assumption)
                    obtain ⟨ad201, A201_2, c201_2, e201, hx201_0, hx201_1, hx201_2, hl201_2, hi201_2⟩ := at_T84 HR0_2.out 0 p201 q201
                    cases e201
                    have qi201 : (0 < l0_2.length) = True := eq_true (by omega)
                    (try rw [show ((0 : Int)).toNat = 0 from rfl] at hx201_0)
                    (try rw [show 0 * 3 = 0 from rfl] at hx201_0)
                    (try rw [Addr.add_zero'] at hx201_0)
                    (try rw [show ((0 : Int)).toNat = 0 from rfl] at hx201_1)
                    (try rw [show 0 * 3 = 0 from rfl] at hx201_1)
                    (try rw [Addr.add_zero'] at hx201_1)
                    (try rw [show ((0 : Int)).toNat = 0 from rfl] at hx201_2)
                    (try rw [show 0 * 3 = 0 from rfl] at hx201_2)
                    (try rw [Addr.add_zero'] at hx201_2)
                    replace hx201_0 := (HB.out.cell (World.block_lt_of_cell? w _ hx201_0)).trans hx201_0
                    replace hx201_1 := (HB.out.cell (World.block_lt_of_cell? w _ hx201_1)).trans hx201_1
                    replace hx201_2 := (HB.out.cell (World.block_lt_of_cell? w _ hx201_2)).trans hx201_2
                    have HR201_2 := Aside0.mk hi201_2
                    have HC201_2 := Aside0.mk hl201_2
                    clear hi201_2 hl201_2
                    replace p201 := eq_true p201
                    replace q201 := eq_true q201
                    go_wp2_with (first | ((with_reducible refine gate_callee (f := 84) rfl ?_); refine goesL_ (some 153) rfl rfl Tryz.func84 (by kernel_rfl) rfl #[.agg #[.int .i64 ((rd_T84 l0_2 0).f0), .string ((rd_T84 l0_2 0).f1), .slice A201_2 ((rd_T84 l0_2 0).f2).length c201_2], .slice A1 l1.length c1, .int .i64 (wrap64 (a2 + 1))] rfl (by (try simp only [List.map_toArray, List.map_cons, List.map_nil]); first | done | rfl | (simp only [List.length_drop, List.length_take]; rfl)) ?_; (with_reducible refine (ih k (by omega) ((rd_T84 l0_2 0).f0) ((rd_T84 l0_2 0).f1) _ _ ((rd_T84 l0_2 0).f2) _ _ l1 (wrap64 (a2 + 1)) t202 t203 t204 _ ?side1 ?side2 ?side3 ?side4 A68.out).mono ?_); (case side1 => repeat (first | exact (Kd.C_below HR201_2.out HB.out) | (with_reducible refine Kd.C_alloc ?_ _) | (with_reducible refine Kd.C_drewN ?_ _) | (with_reducible refine Kd.C_drew ?_))); (case side2 => exact HC201_2.out); (case side3 => repeat (first | exact (Kd.C_below HR1.out HB.out) | (with_reducible refine Kd.C_alloc ?_ _) | (with_reducible refine Kd.C_drewN ?_ _) | (with_reducible refine Kd.C_drew ?_))); (case side4 => exact HC1.out); rintro e w89 ⟨rfl, hb⟩; refine ⟨_, rfl, ?_⟩; have n0_ := Aside0.mk (blk_below (g := gb177) (o := .cells #[.int .i64 a0_0, .string a0_1, .slice (some ad201) l0_2.length c0_2] 84 (0, 0)) (by (with_reducible repeat (first | refine blk_drewN ?_ _ | refine blk_drew ?_ | refine blk_alloc ?_ _)); exact BK177.out) hb); have n1_ := Aside0.mk (below_step (by repeat (first | (with_reducible first | exact HB.out | apply below_alloc | apply pw_below_drewN | apply below_drew1 | refine below_set ?_ GE177.out) | exact HB.out)) hb); clear BK177; clear HB; have BK177 := n0_; have HB := n1_; clear n0_ n1_; (try clear hb); (try clear hb2); (try clear hk); (try clear hi)))
                    go_ret3
                    exact ⟨by first | rfl | (simp [errW_none, errW_some] <;> rfl) | (simp [*, errW_none, errW_some] <;> rfl), by repeat (first | (with_reducible first | exact HB.out | apply below_alloc | apply pw_below_drewN | apply below_drew1 | refine below_set ?_ GE177.out) | exact HB.out)⟩
                · rw [if_neg c67] at H
                  exact absurd H (by simp)
              · rw [if_neg c66] at H
                have c66b0 : (a0_0 == 5) = false := beq_eq_false_iff_ne.mpr c66
                have c66b1 : (a0_0 != 5) = true := bne_iff_ne.mpr c66
                have H' := Aside0.mk H
                clear H
                go_wp2
                go_meet
                case rel => exact ⟨_, (wrap64 (a2 + 1)), ((⟨#[]⟩ : ByteArray)), (0), (by first | rfl | (simp; done) | (simp [*]; done) | (have e_ : ∀ l : List UInt8, (l != []) = !l.isEmpty := (fun l => by cases l <;> rfl); simp [e_]; done)), (by first | rfl | (simp; done) | (simp [*]; done) | (have e_ : ∀ l : List UInt8, (l != []) = !l.isEmpty := (fun l => by cases l <;> rfl); simp [e_]; done)), (by first | rfl | (simp; done) | (simp [*]; done) | (have e_ : ∀ l : List UInt8, (l != []) = !l.isEmpty := (fun l => by cases l <;> rfl); simp [e_]; done)), H', ⟨by first | omega | exact Nat.le_refl _⟩, ⟨by repeat (first | (with_reducible first | exact HB.out | apply below_alloc | apply pw_below_drewN | apply below_drew1 | refine below_set ?_ GE177.out) | exact HB.out)⟩⟩
    case rest =>
      clear HC6
      try clear c1
      try clear p1
      try clear q1
      try clear hx1
      try clear qi1
      try clear c2
      try clear p2
      try clear q2
      try clear hx2
      try clear qi2
      try clear c3
      try clear c4
      try clear c5
      try clear c6
      try clear p6
      try clear c7
      try clear c8
      try clear c18
      try clear p18
      try clear q18
      try clear hx18
      try clear qi18
      try clear c19
      try clear p19
      try clear q19
      try clear hx19
      try clear qi19
      try clear c20
      try clear p20
      try clear q20
      try clear hx20
      try clear qi20
      try clear c21
      try clear p21
      try clear q21
      try clear hx21
      try clear qi21
      try clear c36
      try clear c36b0
      try clear c36b1
      try clear c37
      try clear c39
      try clear c39b0
      try clear c39b1
      try clear c40
      try clear c42
      try clear c42b0
      try clear c42b1
      try clear c52
      try clear p64
      try clear c66
      try clear c66b0
      try clear c66b1
      try clear c67
      try clear c67b0
      try clear c67b1
      try clear c69
      try clear c69b0
      try clear c69b1
      try clear c70
      try clear c71
      try clear c72
      try clear c72b0
      try clear c72b1
      try clear c84
      try clear hcz56_0
      try clear hcz56_1
      try clear hcz56_2
      try clear hcz58_0
      try clear hcz58_1
      try clear hcz58_2
      try clear hcz60_0
      try clear hcz60_1
      try clear hcz60_2
      try clear hcz62_0
      try clear hcz62_1
      try clear hcz62_2
      try clear hcz64_0
      try clear hcz64_1
      try clear hcz64_2
      try clear hcz74_0
      try clear hcz74_1
      try clear hcz74_2
      try clear hcz85_0
      try clear hcz85_1
      try clear hcz85_2
      try clear hcz88_0
      try clear hcz88_1
      try clear hcz88_2
      try clear hfz56_0
      try clear hfz56_1
      try clear hfz56_2
      try clear hfz58_0
      try clear hfz58_1
      try clear hfz58_2
      try clear hfz60_0
      try clear hfz60_1
      try clear hfz60_2
      try clear hfz62_0
      try clear hfz62_1
      try clear hfz62_2
      try clear hfz64_0
      try clear hfz64_1
      try clear hfz64_2
      try clear hfz74_0
      try clear hfz74_1
      try clear hfz74_2
      try clear hfz85_0
      try clear hfz85_1
      try clear hfz85_2
      try clear hfz88_0
      try clear hfz88_1
      try clear hfz88_2
      try clear hx185_0
      try clear hx185_1
      try clear hx185_2
      try clear hx189_0
      try clear hx189_1
      try clear hx189_2
      try clear hx197_0
      try clear hx197_1
      try clear hx197_2
      try clear hx201_0
      try clear hx201_1
      try clear hx201_2
      try clear hx217_0
      try clear hx217_1
      try clear hx217_2
      try clear p185
      try clear p189
      try clear p197
      try clear p201
      try clear p217
      try clear q185
      try clear q189
      try clear q197
      try clear q201
      try clear q217
      obtain ⟨kq, x2_5, x9_5, x10_5, rfl, rfl, rfl, HA, HJ5, HB⟩ := hcut
      cases kq with
      | zero => exact absurd HA.out (by simp [saplingref13_Mean.j3])
      | succ kj5 =>
        have H := HA.out
        clear HA
        simp only [saplingref13_Mean.j3] at H
        by_cases c90 : x10_5 = 0
        · rw [if_pos c90] at H
          have c90b0 : (x10_5 == 0) = true := beq_iff_eq.mpr c90
          have c90b1 : (x10_5 != 0) = false := bne_eq_false_iff_eq.mpr c90
          clear c90
          by_cases c91 : (x9_5.size : Int) > 256
          · rw [if_pos c91] at H
            have c91b0 : decide (256 < (x9_5.size : Int)) = true := decide_eq_true c91
            have c91b1 : decide (256 < x9_5.size) = true := decide_eq_true (by omega)
            clear c91
            simp only [Option.some.injEq, Prod.mk.injEq] at H
            obtain ⟨rfl, rfl, rfl⟩ := H
            go_wp2
            go_ret3
            exact ⟨by first | rfl | (simp [errW_none, errW_some] <;> rfl) | (simp [*, errW_none, errW_some] <;> rfl), by repeat (first | (with_reducible first | exact HB.out | apply below_alloc | apply pw_below_drewN | apply below_drew1) | exact HB.out)⟩
          · rw [if_neg c91] at H
            have c91b0 : decide (256 < (x9_5.size : Int)) = false := decide_eq_false c91
            have c91b1 : decide (256 < x9_5.size) = false := decide_eq_false (by omega)
            clear c91
            simp only [Option.some.injEq, Prod.mk.injEq] at H
            obtain ⟨rfl, rfl, rfl⟩ := H
            go_wp2
            go_ret3
            exact ⟨by first | rfl | (simp [errW_none, errW_some] <;> rfl) | (simp [*, errW_none, errW_some] <;> rfl), by repeat (first | (with_reducible first | exact HB.out | apply below_alloc | apply pw_below_drewN | apply below_drew1) | exact HB.out)⟩
        · rw [if_neg c90] at H
          have c90b0 : (x10_5 == 0) = false := beq_eq_false_iff_ne.mpr c90
          have c90b1 : (x10_5 != 0) = true := bne_iff_ne.mpr c90
          simp only [Option.some.injEq, Prod.mk.injEq] at H
          obtain ⟨rfl, rfl, rfl⟩ := H
          go_wp2
          go_ret3
          exact ⟨by first | rfl | (simp [errW_none, errW_some] <;> rfl) | (simp [*, errW_none, errW_some] <;> rfl), by repeat (first | (with_reducible first | exact HB.out | apply below_alloc | apply pw_below_drewN | apply below_drew1) | exact HB.out)⟩

end Go.Proofs.YtijgifinhbbmaaaGreatDoor.Q
-- Written by wip/xprint.py: the machine's side of a function, by program.
namespace Go.Proofs.YtijgifinhbbmaaaGreatDoor.Q
open Go.RowKit Go.Proofs.YtijgifinhbbmaaaGreatDoorW.PrintWords Go.Proofs.YtijgifinhbbmaaaGreatDoorW.PrintLast Go.Proofs.YtijgifinhbbmaaaGreatDoorW.PrintMore
attribute [local go_sem] max2_int min2_int max_two min_two max_three min_three max_four min_four   -- for this text's walks alone
set_option linter.unusedVariables false
set_option linter.unusedSimpArgs false

/-! ### saplingref13_Eval: function 44 -/
def saplingref13_Eval.f (k : Nat) (a0_0 : Int) (a0_1 : ByteArray) (l0_2 : List (S84)) : Option (ByteArray × Int × Int) := (saplingref12_Good.f k a0_0 a0_1 l0_2).bind fun t222 => (if t222 = true then ((saplingref13_Mean.f k a0_0 a0_1 l0_2 ([] : List (S219)) 0).bind fun bt223 => (some (bt223.1, bt223.2.1, bt223.2.2))) else (some ((⟨#[]⟩ : ByteArray), 0, 1)))
theorem saplingref13_Eval.mono : ∀ a0 a1 a2 k, LeO (saplingref13_Eval.f k a0 a1 a2) (saplingref13_Eval.f (k + 1) a0 a1 a2) := by
  intro a0 a1 a2 k
  unfold saplingref13_Eval.f
  repeat' first
      | (with_reducible exact saplingref12_Good.mono _ _ _ _)
      | (with_reducible exact saplingref13_Mean.mono _ _ _ _ _ _)
      | (with_reducible exact LeO.refl _)
      | (with_reducible exact LeO.none _)
      | (with_reducible refine LeO.ite ?_ ?_)
      | (with_reducible refine LeO.bind ?_ (fun _ => ?_))
      | exact saplingref12_Good.mono _ _ _ _
      | exact saplingref13_Mean.mono _ _ _ _ _ _
      | exact LeO.none _
      | refine LeO.ite ?_ ?_
      | refine LeO.bind ?_ (fun _ => ?_)
set_option maxHeartbeats 8000000 in
set_option maxRecDepth 100000 in
theorem saplingref13_Eval.calls (k : Nat) (a0_0 : Int) (a0_1 : ByteArray) (A0_2 : Option Addr) (c0_2 : Nat) (l0_2 : List (S84)) (r1 : ByteArray) (r2 : Int) (r3 : Int) (w : World) (hr0_2 : Kd.C k84 w A0_2 l0_2.length l0_2) (hc0_2 : l0_2.length ≤ c0_2) (h : saplingref13_Eval.f k a0_0 a0_1 l0_2 = some (r1, r2, r3)) :
    Calls Tryz.prog 44 #[.agg #[.int .i64 a0_0, .string a0_1, .slice A0_2 l0_2.length c0_2]] w fun e w' => e = .returned (.tuple #[.string r1, .int .i64 r2, .int .i64 r3]) ∧ Below w.heap.size w w' := by
  have hu84 := Tryz.underlying84
  have HR0_2 := Aside0.mk hr0_2
  have HC0_2 := Aside0.mk hc0_2
  clear hr0_2 hc0_2
  have HB := Aside0.mk (Below.refl w.heap.size w)
  have H : ((saplingref12_Good.f k a0_0 a0_1 l0_2).bind fun t222 => (if t222 = true then ((saplingref13_Mean.f k a0_0 a0_1 l0_2 ([] : List (S219)) 0).bind fun bt223 => (some (bt223.1, bt223.2.1, bt223.2.2))) else (some ((⟨#[]⟩ : ByteArray), 0, 1)))) = some (r1, r2, r3) := h
  clear h
  replace H := Option.bind_eq_some_iff.mp H
  obtain ⟨t222, A20, H⟩ := H
  replace H : (if t222 = true then ((saplingref13_Mean.f k a0_0 a0_1 l0_2 ([] : List (S219)) 0).bind fun bt223 => (some (bt223.1, bt223.2.1, bt223.2.2))) else (some ((⟨#[]⟩ : ByteArray), 0, 1))) = some (r1, r2, r3) := H
  have A2 := Aside0.mk A20
  clear A20
  by_cases c3 : t222 = true
  · subst c3
    have H1 : ((saplingref13_Mean.f k a0_0 a0_1 l0_2 ([] : List (S219)) 0).bind fun bt223 => (some (bt223.1, bt223.2.1, bt223.2.2))) = some (r1, r2, r3) := by rw [if_pos rfl] at H; exact H
    clear H
    have H := H1
    clear H1
    replace H := Option.bind_eq_some_iff.mp H
    obtain ⟨⟨t223, t224, t225⟩, A40, H⟩ := H
    replace H : (some (t223, t224, t225)) = some (r1, r2, r3) := H
    have A4 := Aside0.mk A40
    clear A40
    simp only [Option.some.injEq, Prod.mk.injEq] at H
    obtain ⟨rfl, rfl, rfl⟩ := H
    go_enter Tryz.func44, Tryz.ntmps44
    go_wp2_with (first | ((with_reducible refine gate_dst (N := 1) rfl ?_); refine box_event ?hg (N := 1) ?hd (cs := #[.int .i64 a0_0, .string a0_1, .slice A0_2 l0_2.length c0_2]) (t := 84) ?hr ?_; (case hd => rfl); (case hg => rfl); (case hr => first | (go_simp; done) | (go_simp; rfl)); intro gb221 hg w5 hbox hb; have n0_ := Aside0.mk (below_step (by repeat (first | (with_reducible first | exact HB.out | apply below_alloc | apply pw_below_drewN | apply below_drew1) | exact HB.out)) hb); have n1_ := Aside0.mk (hbox); have n2_ := Aside0.mk ((by rw [hg]; exact (below_size (by repeat (first | (with_reducible first | exact HB.out | apply below_alloc | apply pw_below_drewN | apply below_drew1) | exact HB.out))) : w.heap.size ≤ gb221)); have n3_ := Aside0.mk ((by rw [hg]; exact (below_size (by repeat (first | (with_reducible first | exact HB.out | apply below_alloc | apply pw_below_drewN | apply below_drew1) | exact HB.out))) : w.heap.size ≤ gb221)); clear HB; have HB := n0_; have BK221 := n1_; have GW221 := n2_; have GE221 := n3_; clear n0_ n1_ n2_ n3_; clear hb hbox hg; have hcz6_0 : w5.cell? ⟨gb221, 0, none⟩ = some (.int .i64 a0_0) := (blk_cell BK221.out 0).trans rfl; have hcz6_1 : w5.cell? ⟨gb221, 1, none⟩ = some (.string a0_1) := (blk_cell BK221.out 1).trans rfl; have hcz6_2 : w5.cell? ⟨gb221, 2, none⟩ = some (.slice A0_2 l0_2.length c0_2) := (blk_cell BK221.out 2).trans rfl; have hfz6_0 := blk_frozen BK221.out 0; have hfz6_1 := blk_frozen BK221.out 1; have hfz6_2 := blk_frozen BK221.out 2) | ((with_reducible refine gate_callee (f := 83) rfl ?_); refine goesL_ (some 6) rfl rfl Tryz.func83 (by kernel_rfl) rfl #[.agg #[.int .i64 a0_0, .string a0_1, .slice A0_2 l0_2.length c0_2]] rfl (by (try simp only [List.map_toArray, List.map_cons, List.map_nil]); first | done | rfl | (simp only [List.length_drop, List.length_take]; rfl)) ?_; (with_reducible refine (saplingref12_Good.calls k a0_0 a0_1 _ _ l0_2 true _ ?side1 ?side2 A2.out).mono ?_); (case side1 => repeat (first | exact (Kd.C_below HR0_2.out HB.out) | (with_reducible refine Kd.C_alloc ?_ _) | (with_reducible refine Kd.C_drewN ?_ _) | (with_reducible refine Kd.C_drew ?_))); (case side2 => exact HC0_2.out); rintro e w7 ⟨rfl, hb⟩; refine ⟨_, rfl, ?_⟩; have n0_ := Aside0.mk (blk_below (g := gb221) (o := .cells #[.int .i64 a0_0, .string a0_1, .slice A0_2 l0_2.length c0_2] 84 (0, 0)) (by (with_reducible repeat (first | refine blk_drewN ?_ _ | refine blk_drew ?_ | refine blk_alloc ?_ _)); exact BK221.out) hb); have n1_ := Aside0.mk (below_step (by repeat (first | (with_reducible first | exact HB.out | apply below_alloc | apply pw_below_drewN | apply below_drew1 | refine below_set ?_ GE221.out) | exact HB.out)) hb); clear BK221; clear HB; have BK221 := n0_; have HB := n1_; clear n0_ n1_; (try clear hb); (try clear hb2); (try clear hk); (try clear hi); have hcz8_0 : w7.cell? ⟨gb221, 0, none⟩ = some (.int .i64 a0_0) := (blk_cell BK221.out 0).trans rfl; have hcz8_1 : w7.cell? ⟨gb221, 1, none⟩ = some (.string a0_1) := (blk_cell BK221.out 1).trans rfl; have hcz8_2 : w7.cell? ⟨gb221, 2, none⟩ = some (.slice A0_2 l0_2.length c0_2) := (blk_cell BK221.out 2).trans rfl; have hfz8_0 := blk_frozen BK221.out 0; have hfz8_1 := blk_frozen BK221.out 1; have hfz8_2 := blk_frozen BK221.out 2) | ((with_reducible refine gate_callee (f := 84) rfl ?_); refine goesL_ (some 9) rfl rfl Tryz.func84 (by kernel_rfl) rfl #[.agg #[.int .i64 a0_0, .string a0_1, .slice A0_2 l0_2.length c0_2], .slice none 0 0, .int .i64 0] rfl (by (try simp only [List.map_toArray, List.map_cons, List.map_nil]); first | done | rfl | (simp only [List.length_drop, List.length_take]; rfl)) ?_; (refine (saplingref13_Mean.calls k a0_0 a0_1 _ _ l0_2 _ _ ([] : List (S219)) 0 t223 t224 t225 _ ?side1 ?side2 ?side3 ?side4 A4.out).mono ?_); (case side1 => repeat (first | exact (Kd.C_below HR0_2.out HB.out) | (with_reducible refine Kd.C_alloc ?_ _) | (with_reducible refine Kd.C_drewN ?_ _) | (with_reducible refine Kd.C_drew ?_))); (case side2 => exact HC0_2.out); (case side3 => exact Kd.C_nil _ _); (case side4 => exact Nat.le_refl _); rintro e w9 ⟨rfl, hb⟩; refine ⟨_, rfl, ?_⟩; have n0_ := Aside0.mk (blk_below (g := gb221) (o := .cells #[.int .i64 a0_0, .string a0_1, .slice A0_2 l0_2.length c0_2] 84 (0, 0)) (by (with_reducible repeat (first | refine blk_drewN ?_ _ | refine blk_drew ?_ | refine blk_alloc ?_ _)); exact BK221.out) hb); have n1_ := Aside0.mk (below_step (by repeat (first | (with_reducible first | exact HB.out | apply below_alloc | apply pw_below_drewN | apply below_drew1 | refine below_set ?_ GE221.out) | exact HB.out)) hb); clear BK221; clear HB; have BK221 := n0_; have HB := n1_; clear n0_ n1_; (try clear hb); (try clear hb2); (try clear hk); (try clear hi)))
    go_ret3
    exact ⟨by first | rfl | (simp [errW_none, errW_some] <;> rfl) | (simp [*, errW_none, errW_some] <;> rfl), by repeat (first | (with_reducible first | exact HB.out | apply below_alloc | apply pw_below_drewN | apply below_drew1 | refine below_set ?_ GE221.out) | exact HB.out)⟩
  · replace c3 := Bool.eq_false_iff.mpr c3
    subst c3
    have H1 : (some ((⟨#[]⟩ : ByteArray), 0, 1)) = some (r1, r2, r3) := by rw [if_neg (show ¬ (false = true) by decide)] at H; exact H
    clear H
    have H := H1
    clear H1
    simp only [Option.some.injEq, Prod.mk.injEq] at H
    obtain ⟨rfl, rfl, rfl⟩ := H
    go_enter Tryz.func44, Tryz.ntmps44
    go_wp2_with (first | ((with_reducible refine gate_dst (N := 1) rfl ?_); refine box_event ?hg (N := 1) ?hd (cs := #[.int .i64 a0_0, .string a0_1, .slice A0_2 l0_2.length c0_2]) (t := 84) ?hr ?_; (case hd => rfl); (case hg => rfl); (case hr => first | (go_simp; done) | (go_simp; rfl)); intro gb221 hg w10 hbox hb; have n0_ := Aside0.mk (below_step (by repeat (first | (with_reducible first | exact HB.out | apply below_alloc | apply pw_below_drewN | apply below_drew1) | exact HB.out)) hb); have n1_ := Aside0.mk (hbox); have n2_ := Aside0.mk ((by rw [hg]; exact (below_size (by repeat (first | (with_reducible first | exact HB.out | apply below_alloc | apply pw_below_drewN | apply below_drew1) | exact HB.out))) : w.heap.size ≤ gb221)); have n3_ := Aside0.mk ((by rw [hg]; exact (below_size (by repeat (first | (with_reducible first | exact HB.out | apply below_alloc | apply pw_below_drewN | apply below_drew1) | exact HB.out))) : w.heap.size ≤ gb221)); clear HB; have HB := n0_; have BK221 := n1_; have GW221 := n2_; have GE221 := n3_; clear n0_ n1_ n2_ n3_; clear hb hbox hg; have hcz11_0 : w10.cell? ⟨gb221, 0, none⟩ = some (.int .i64 a0_0) := (blk_cell BK221.out 0).trans rfl; have hcz11_1 : w10.cell? ⟨gb221, 1, none⟩ = some (.string a0_1) := (blk_cell BK221.out 1).trans rfl; have hcz11_2 : w10.cell? ⟨gb221, 2, none⟩ = some (.slice A0_2 l0_2.length c0_2) := (blk_cell BK221.out 2).trans rfl; have hfz11_0 := blk_frozen BK221.out 0; have hfz11_1 := blk_frozen BK221.out 1; have hfz11_2 := blk_frozen BK221.out 2) | ((with_reducible refine gate_callee (f := 83) rfl ?_); refine goesL_ (some 6) rfl rfl Tryz.func83 (by kernel_rfl) rfl #[.agg #[.int .i64 a0_0, .string a0_1, .slice A0_2 l0_2.length c0_2]] rfl (by (try simp only [List.map_toArray, List.map_cons, List.map_nil]); first | done | rfl | (simp only [List.length_drop, List.length_take]; rfl)) ?_; (with_reducible refine (saplingref12_Good.calls k a0_0 a0_1 _ _ l0_2 false _ ?side1 ?side2 A2.out).mono ?_); (case side1 => repeat (first | exact (Kd.C_below HR0_2.out HB.out) | (with_reducible refine Kd.C_alloc ?_ _) | (with_reducible refine Kd.C_drewN ?_ _) | (with_reducible refine Kd.C_drew ?_))); (case side2 => exact HC0_2.out); rintro e w12 ⟨rfl, hb⟩; refine ⟨_, rfl, ?_⟩; have n0_ := Aside0.mk (blk_below (g := gb221) (o := .cells #[.int .i64 a0_0, .string a0_1, .slice A0_2 l0_2.length c0_2] 84 (0, 0)) (by (with_reducible repeat (first | refine blk_drewN ?_ _ | refine blk_drew ?_ | refine blk_alloc ?_ _)); exact BK221.out) hb); have n1_ := Aside0.mk (below_step (by repeat (first | (with_reducible first | exact HB.out | apply below_alloc | apply pw_below_drewN | apply below_drew1 | refine below_set ?_ GE221.out) | exact HB.out)) hb); clear BK221; clear HB; have BK221 := n0_; have HB := n1_; clear n0_ n1_; (try clear hb); (try clear hb2); (try clear hk); (try clear hi)))
    go_ret3
    exact ⟨by first | rfl | (simp [errW_none, errW_some] <;> rfl) | (simp [*, errW_none, errW_some] <;> rfl), by repeat (first | (with_reducible first | exact HB.out | apply below_alloc | apply pw_below_drewN | apply below_drew1 | refine below_set ?_ GE221.out) | exact HB.out)⟩

end Go.Proofs.YtijgifinhbbmaaaGreatDoor.Q
