/- version.Parse at "1.0.0". -/
import Derived.Test.YtijgifinhbbmaaaGreatDoorR1
import Derived.Test.YtijgifinhbbmaaaGreatDoorA1
import Derived.Test.YtijgifinhbbmaaaGreatDoorSh2
import Derived.Test.YtijgifinhbbmaaaGreatDoorXE
set_option linter.unusedVariables false
set_option linter.unusedSimpArgs false
namespace Go.Proofs.YtijgifinhbbmaaaGreatDoor
open Go.RowKit Go.Shelf Go.Proofs.YtijgifinhbbmaaaGreatDoorW.PrintWords Go.Proofs.YtijgifinhbbmaaaGreatDoor.Q
theorem atoi_calls (s : ByteArray) (v : Int) (hs : s.size ≤ 9223372036854775806) (h : Lib.atoiAll s.data.toList = .ok v) (w : World) :
    Calls Tryz.prog 137 #[.string s] w fun e w' => e = .returned (.tuple #[.int .i64 v, .nilIface]) ∧ Below w.heap.size w w' := by
  refine (Tryz.strconv_Atoi_ok s hs v h w).mono ?_
  rintro e w' ⟨rfl, h | ⟨t, h⟩⟩
  · exact ⟨rfl, h ▸ Below.refl _ _⟩
  · exact ⟨rfl, h ▸ Lib.bytesWorld_below _ _ _⟩
def w1S : ByteArray := ⟨#[49]⟩
def w0S : ByteArray := ⟨#[48]⟩
def v100 : ByteArray := ⟨#[49, 46, 48, 46, 48]⟩
def dotS : ByteArray := ⟨#[46]⟩
theorem split100 : (Lib.splitB dotS 0 (Lib.countB v100 dotS) v100) = [w1S, w0S, w0S] := by decide +kernel
theorem count100 : Lib.countB v100 dotS = 2 := by decide +kernel
theorem atoi1 : Lib.atoiAll w1S.data.toList = .ok 1 := by rfl
theorem atoi0 : Lib.atoiAll w0S.data.toList = .ok 0 := by rfl
theorem itoa1 (w : World) : Calls Tryz.prog 138 #[.int .i64 1] w fun e w' => e = .returned (.string w1S) ∧ w = w' := by
  refine (Tryz.strconv_Itoa_small 1 (by decide) w).mono ?_
  rintro e w' ⟨rfl, rfl⟩
  exact ⟨congrArg (fun a => Ending.returned (.string ⟨a⟩)) (by decide +kernel), rfl⟩
theorem itoa0 (w : World) : Calls Tryz.prog 138 #[.int .i64 0] w fun e w' => e = .returned (.string w0S) ∧ w = w' := by
  refine (Tryz.strconv_Itoa_small 0 (by decide) w).mono ?_
  rintro e w' ⟨rfl, rfl⟩
  exact ⟨congrArg (fun a => Ending.returned (.string ⟨a⟩)) (by decide +kernel), rfl⟩
/-- The variable of block 5 holds an int. -/
def Has5 (w : World) : Prop := 5 < w.heap.size ∧ ∃ m, w.cell? ⟨5, 0, none⟩ = some (.int .i64 m)
theorem Has5.below {w w' : World} (h : Has5 w) (hb : Below w.heap.size w w') : Has5 w' := by
  obtain ⟨h1, m, h2⟩ := h
  exact ⟨Nat.lt_of_lt_of_le h1 hb.size, m, (hb.cell (p := ⟨5, 0, none⟩) h1).trans h2⟩
theorem split100_calls (w : World) (h : Has5 w) : Calls Tryz.prog 136 #[.string v100, .string dotS] w fun e w' => e = .returned (.slice (some ⟨w.heap.size, 0, none⟩) 3 3) ∧ Below w.heap.size w w' ∧ w.heap.size < w'.heap.size ∧
    w'.heap[w.heap.size]? = some (.cells #[.string w1S, .string w0S, .string w0S] 9 (0, 0)) := by
  obtain ⟨_, m, hm⟩ := h
  have hS := Tryz.strings_Split v100 dotS m w (by decide) hm (by decide)
  rw [split100, count100] at hS
  refine hS.mono ?_
  rintro e w' ⟨rfl, rfl⟩
  exact ⟨rfl, below1 _ _, by simp, heap_alloc_new _ _⟩
set_option maxHeartbeats 2000000 in
theorem vparse100 (w : World) (h5 : Has5 w) :
    Calls Tryz.prog 88 #[.string v100] w fun e w' => e = .returned (.tuple #[.agg #[.int .i64 1, .int .i64 0, .int .i64 0], .int .i64 0]) ∧ Below w.heap.size w w' := by
  have H5 := Aside0.mk h5
  clear h5
  go_enter Tryz.func88, Tryz.ntmps88
  go_wp2_with (first | (go_at_call 136; refine (split100_calls _ (H5.out.below (below1 _ _))).mono ?_; rintro e w1 ⟨rfl, hb, hlt, hd⟩; have hR := (hb.block w.heap.size (by simp)).trans (heap_alloc_new w _); have HB := Aside0.mk ((below1 _ _).trans (hb.mono (by simp))); have HD := Aside0.mk hd; have HL := Aside0.mk hlt; clear hb hd hlt))
  have hd := HD.out
  have hl := HL.out
  simp only [World.size_alloc] at hd hl
  clear HD HL
  have bv := heap_alloc_new w1 (.cells #[.int .i64 0, .int .i64 0, .int .i64 0] 34)
  have HD := Aside0.mk ((Below.heap_alloc w1 (.cells #[.int .i64 0, .int .i64 0, .int .i64 0] 34) _ hl).trans hd)
  have hV1 := blk_lt bv
  have hS1 : w.heap.size + 1 < (w1.alloc (.cells #[.int .i64 0, .int .i64 0, .int .i64 0] 34)).heap.size := by simp; omega
  have hR1 : w.heap.size < (w1.alloc (.cells #[.int .i64 0, .int .i64 0, .int .i64 0] 34)).heap.size := by simp; omega
  have HB0 := Aside0.mk (HB.out.alloc HB.out.size (.cells #[.int .i64 0, .int .i64 0, .int .i64 0] 34))
  have HR0 := Aside0.mk ((Below.heap_alloc w1 (.cells #[.int .i64 0, .int .i64 0, .int .i64 0] 34) _ (show w.heap.size < w1.heap.size by omega)).trans hR)
  have hne : w.heap.size + 1 ≠ w1.heap.size := by omega
  have hnr : w.heap.size ≠ w1.heap.size := by omega
  have hle : w.heap.size ≤ w1.heap.size := by omega
  have HD0 := HD
  clear HD HB hd hl H5 hR
  refine wp_loop_rounds 4 ?_
  generalize w1.alloc (.cells #[.int .i64 0, .int .i64 0, .int .i64 0] 34) = W1 at *
  generalize w1.heap.size = V at *
  generalize hSS : w.heap.size + 1 = S at *
  clear hSS
  have bv0 := bv
  clear bv
  have d0 : W1.cell? ⟨S, 0, none⟩ = some (.string w1S) := blk_cell HD0.out 0
  rw [rounds_succ]
  go_wp2_with (first | (go_at_call 137; refine (atoi_calls w1S 1 (by decide) atoi1 _).mono ?_; rintro e u1 ⟨rfl, hb⟩; have HD1 := Aside0.mk ((hb.block S hS1).trans HD0.out); have hv1 := (hb.block V hV1).trans bv0; have HR1 := Aside0.mk ((hb.block w.heap.size hR1).trans HR0.out); have hS2 : S < u1.heap.size := Nat.lt_of_lt_of_le hS1 hb.size; have hV2 : V < u1.heap.size := Nat.lt_of_lt_of_le hV1 hb.size; have hR2 : w.heap.size < u1.heap.size := Nat.lt_of_lt_of_le hR1 hb.size; have HB1 := Aside0.mk (HB0.out.trans (hb.mono HB0.out.size)); clear hb; have v10 := blk_cell hv1 0; have f10 := free_blk (i := 0) hv1; simp only [List.getElem?_toArray, List.getElem?_cons_zero, List.getElem?_cons_succ] at v10) | (go_at_call 138; refine (itoa1 _).mono ?_; rintro e u ⟨rfl, rfl⟩))
  have bv1 : (u1.setCell ⟨V, 0, none⟩ (.int .i64 1)).heap[V]? = some (.cells #[.int .i64 1, .int .i64 0, .int .i64 0] 34 (0, 0)) := blk_set hv1 0 _
  have HDD := Aside0.mk (show (u1.setCell ⟨V, 0, none⟩ (.int .i64 1)).heap[S]? = _ from blk_far HD1.out hne _)
  have HRR := Aside0.mk (show (u1.setCell ⟨V, 0, none⟩ (.int .i64 1)).heap[w.heap.size]? = _ from blk_far HR1.out hnr _)
  have HBB := Aside0.mk (HB1.out.setCell (p := ⟨V, 0, none⟩) (by simp; omega) (.int .i64 1))
  have hS9 : S < (u1.setCell ⟨V, 0, none⟩ (.int .i64 1)).heap.size := by simpa using hS2
  have hV9 : V < (u1.setCell ⟨V, 0, none⟩ (.int .i64 1)).heap.size := by simpa using hV2
  have hR9 : w.heap.size < (u1.setCell ⟨V, 0, none⟩ (.int .i64 1)).heap.size := by simpa using hR2
  clear HB1 HD1 HR1 hS1 hV1 hR1 hS2 hV2 hR2 hv1 v10 f10 HD0 HB0 HR0 bv0
  generalize (u1.setCell ⟨V, 0, none⟩ (.int .i64 1)) = Y1 at *
  have HD1 := HDD
  have HB1 := HBB
  have HR1 := HRR
  have hS2 := hS9
  have hV2 := hV9
  have hR2 := hR9
  clear HDD HBB HRR hS9 hV9 hR9 d0
  have d1 : Y1.cell? ⟨S, 1, none⟩ = some (.string w0S) := blk_cell HD1.out 1
  rw [rounds_succ]
  go_wp2_with (first | (go_at_call 137; refine (atoi_calls w0S 0 (by decide) atoi0 _).mono ?_; rintro e u2 ⟨rfl, hb⟩; have HD2 := Aside0.mk ((hb.block S hS2).trans HD1.out); have hv2 := (hb.block V hV2).trans bv1; have HR2 := Aside0.mk ((hb.block w.heap.size hR2).trans HR1.out); have hS3 : S < u2.heap.size := Nat.lt_of_lt_of_le hS2 hb.size; have hV3 : V < u2.heap.size := Nat.lt_of_lt_of_le hV2 hb.size; have hR3 : w.heap.size < u2.heap.size := Nat.lt_of_lt_of_le hR2 hb.size; have HB2 := Aside0.mk (HB1.out.trans (hb.mono HB1.out.size)); clear hb; have v20 := blk_cell hv2 1; have f20 := free_blk (i := 1) hv2; simp only [List.getElem?_toArray, List.getElem?_cons_zero, List.getElem?_cons_succ] at v20) | (go_at_call 138; refine (itoa0 _).mono ?_; rintro e u ⟨rfl, rfl⟩))
  have bv2 : (u2.setCell ⟨V, 1, none⟩ (.int .i64 0)).heap[V]? = some (.cells #[.int .i64 1, .int .i64 0, .int .i64 0] 34 (0, 0)) := blk_set hv2 1 _
  have HDD := Aside0.mk (show (u2.setCell ⟨V, 1, none⟩ (.int .i64 0)).heap[S]? = _ from blk_far HD2.out hne _)
  have HRR := Aside0.mk (show (u2.setCell ⟨V, 1, none⟩ (.int .i64 0)).heap[w.heap.size]? = _ from blk_far HR2.out hnr _)
  have HBB := Aside0.mk (HB2.out.setCell (p := ⟨V, 1, none⟩) (by simp; omega) (.int .i64 0))
  have hS9 : S < (u2.setCell ⟨V, 1, none⟩ (.int .i64 0)).heap.size := by simpa using hS3
  have hV9 : V < (u2.setCell ⟨V, 1, none⟩ (.int .i64 0)).heap.size := by simpa using hV3
  have hR9 : w.heap.size < (u2.setCell ⟨V, 1, none⟩ (.int .i64 0)).heap.size := by simpa using hR3
  clear HB2 HD2 HR2 hS2 hV2 hR2 hS3 hV3 hR3 hv2 v20 f20 HD1 HB1 HR1 bv1
  generalize (u2.setCell ⟨V, 1, none⟩ (.int .i64 0)) = Y2 at *
  have HD2 := HDD
  have HB2 := HBB
  have HR2 := HRR
  have hS3 := hS9
  have hV3 := hV9
  have hR3 := hR9
  clear HDD HBB HRR hS9 hV9 hR9 d1
  have d2 : Y2.cell? ⟨S, 2, none⟩ = some (.string w0S) := blk_cell HD2.out 2
  rw [rounds_succ]
  go_wp2_with (first | (go_at_call 137; refine (atoi_calls w0S 0 (by decide) atoi0 _).mono ?_; rintro e u3 ⟨rfl, hb⟩; have HD3 := Aside0.mk ((hb.block S hS3).trans HD2.out); have hv3 := (hb.block V hV3).trans bv2; have HR3 := Aside0.mk ((hb.block w.heap.size hR3).trans HR2.out); have hS4 : S < u3.heap.size := Nat.lt_of_lt_of_le hS3 hb.size; have hV4 : V < u3.heap.size := Nat.lt_of_lt_of_le hV3 hb.size; have hR4 : w.heap.size < u3.heap.size := Nat.lt_of_lt_of_le hR3 hb.size; have HB3 := Aside0.mk (HB2.out.trans (hb.mono HB2.out.size)); clear hb; have v30 := blk_cell hv3 2; have f30 := free_blk (i := 2) hv3; simp only [List.getElem?_toArray, List.getElem?_cons_zero, List.getElem?_cons_succ] at v30) | (go_at_call 138; refine (itoa0 _).mono ?_; rintro e u ⟨rfl, rfl⟩))
  have bv3 : (u3.setCell ⟨V, 2, none⟩ (.int .i64 0)).heap[V]? = some (.cells #[.int .i64 1, .int .i64 0, .int .i64 0] 34 (0, 0)) := blk_set hv3 2 _
  have HDD := Aside0.mk (show (u3.setCell ⟨V, 2, none⟩ (.int .i64 0)).heap[S]? = _ from blk_far HD3.out hne _)
  have HRR := Aside0.mk (show (u3.setCell ⟨V, 2, none⟩ (.int .i64 0)).heap[w.heap.size]? = _ from blk_far HR3.out hnr _)
  have HBB := Aside0.mk (HB3.out.setCell (p := ⟨V, 2, none⟩) (by simp; omega) (.int .i64 0))
  have hS9 : S < (u3.setCell ⟨V, 2, none⟩ (.int .i64 0)).heap.size := by simpa using hS4
  have hV9 : V < (u3.setCell ⟨V, 2, none⟩ (.int .i64 0)).heap.size := by simpa using hV4
  have hR9 : w.heap.size < (u3.setCell ⟨V, 2, none⟩ (.int .i64 0)).heap.size := by simpa using hR4
  clear HB3 HD3 HR3 hS3 hV3 hR3 hS4 hV4 hR4 hv3 v30 f30 HD2 HB2 HR2 bv2
  generalize (u3.setCell ⟨V, 2, none⟩ (.int .i64 0)) = Y3 at *
  have HD3 := HDD
  have HB3 := HBB
  have HR3 := HRR
  have hS4 := hS9
  have hV4 := hV9
  have hR4 := hR9
  clear HDD HBB HRR hS9 hV9 hR9 d2
  rw [rounds_succ]
  have v0 := blk_cell bv3 0
  have v1 := blk_cell bv3 1
  have v2 := blk_cell bv3 2
  simp only [List.getElem?_toArray, List.getElem?_cons_zero, List.getElem?_cons_succ] at v0 v1 v2
  have hg : vgood 1 0 0 = true := by decide
  have hq := vGood_calls 1 0 0 Y3
  rw [hg] at hq
  have HQ := Aside0.mk hq
  clear hq hg
  go_wp2_with (first | (go_at_call 107; refine HQ.out.mono ?_; rintro e w2 ⟨rfl, hb⟩; have hB := Aside0.mk (HB3.out.trans (hb.mono HB3.out.size)); have bv4 := (hb.block V hV4).trans bv3; have br4 := (hb.block w.heap.size hR4).trans HR3.out; clear v0 v1 v2 hb bv3; have v0 := blk_cell bv4 0; have v1 := blk_cell bv4 1; have v2 := blk_cell bv4 2; have r0 := blk_cell br4 0; have r1 := blk_cell br4 1; have r2 := blk_cell br4 2; have fr0 := free_blk (i := 0) br4; have fr1 := free_blk (i := 1) br4; have fr2 := free_blk (i := 2) br4; clear bv4 br4; simp only [List.getElem?_toArray, List.getElem?_cons_zero, List.getElem?_cons_succ] at v0 v1 v2 r0 r1 r2))
  refine ⟨rfl, _, ?_, rfl, ?_⟩
  · simp [results, Tryz.results88, go_sem, r0, r1, r2]
  · exact ((hB.out.setCell (p := ⟨w.heap.size, 0, none⟩) (Nat.le_refl _) _).setCell (p := ⟨w.heap.size, 1, none⟩) (Nat.le_refl _) _).setCell (p := ⟨w.heap.size, 2, none⟩) (Nat.le_refl _) _
end Go.Proofs.YtijgifinhbbmaaaGreatDoor
/- eval.Recipe, where nothing is asked of it: at ErrNone. -/
set_option linter.unusedVariables false
set_option linter.unusedSimpArgs false
namespace Go.Proofs.YtijgifinhbbmaaaGreatDoor
open Go.RowKit Go.Shelf Go.Proofs.YtijgifinhbbmaaaGreatDoorW.PrintWords Go.Proofs.YtijgifinhbbmaaaGreatDoor.Q
theorem wp_q {P : Program} {c : Code} {Q : Exit → Act → World → Prop} {a : Act} {w : World} (h : ∀ Q', Q' = Q → c.wp P Q' a w) : c.wp P Q a w := h Q rfl
def zeroOut : Array Value := #[.string ⟨#[]⟩, .int .i64 0, .int .i64 0, .int .i64 0, .string ⟨#[]⟩, .slice none 0 0, .slice none 0 0, .slice none 0 0]
theorem set8 {W : World} {O : Nat} {t : TypeId} {a0 a1 a2 a3 a4 a5 a6 a7 : Value} (h : W.heap[O]? = some (.cells #[a0, a1, a2, a3, a4, a5, a6, a7] t (0, 0))) (b0 b1 b2 b3 b4 b5 b6 b7 : Value) :
    ((((((((W.setCell ⟨O, 0, none⟩ b0).setCell ⟨O, 1, none⟩ b1).setCell ⟨O, 2, none⟩ b2).setCell ⟨O, 3, none⟩ b3).setCell ⟨O, 4, none⟩ b4).setCell ⟨O, 5, none⟩ b5).setCell ⟨O, 6, none⟩ b6).setCell ⟨O, 7, none⟩ b7).heap[O]? = some (.cells #[b0, b1, b2, b3, b4, b5, b6, b7] t (0, 0)) := by
  have h0 := blk_set h 0 b0
  have h1 := blk_set h0 1 b1
  have h2 := blk_set h1 2 b2
  have h3 := blk_set h2 3 b3
  have h4 := blk_set h3 4 b4
  have h5 := blk_set h4 5 b5
  have h6 := blk_set h5 6 b6
  have h7 := blk_set h6 7 b7
  simpa only [List.setIfInBounds_toArray, List.set_cons_zero, List.set_cons_succ] using h7
theorem far8 {W : World} {O E : Nat} {t : TypeId} {cs : Array Value} (h : W.heap[E]? = some (.cells cs t (0, 0))) (hne : E ≠ O) (b0 b1 b2 b3 b4 b5 b6 b7 : Value) :
    ((((((((W.setCell ⟨O, 0, none⟩ b0).setCell ⟨O, 1, none⟩ b1).setCell ⟨O, 2, none⟩ b2).setCell ⟨O, 3, none⟩ b3).setCell ⟨O, 4, none⟩ b4).setCell ⟨O, 5, none⟩ b5).setCell ⟨O, 6, none⟩ b6).setCell ⟨O, 7, none⟩ b7).heap[E]? = some (.cells cs t (0, 0)) :=
  blk_far (blk_far (blk_far (blk_far (blk_far (blk_far (blk_far (blk_far h hne _) hne _) hne _) hne _) hne _) hne _) hne _) hne _
theorem below8 {B O : Nat} {w W : World} (h : Below B w W) (h1 : B ≤ O) (b0 b1 b2 b3 b4 b5 b6 b7 : Value) :
    Below B w ((((((((W.setCell ⟨O, 0, none⟩ b0).setCell ⟨O, 1, none⟩ b1).setCell ⟨O, 2, none⟩ b2).setCell ⟨O, 3, none⟩ b3).setCell ⟨O, 4, none⟩ b4).setCell ⟨O, 5, none⟩ b5).setCell ⟨O, 6, none⟩ b6).setCell ⟨O, 7, none⟩ b7) :=
  (((((((h.setCell (p := ⟨O, 0, none⟩) h1 _).setCell (p := ⟨O, 1, none⟩) h1 _).setCell (p := ⟨O, 2, none⟩) h1 _).setCell (p := ⟨O, 3, none⟩) h1 _).setCell (p := ⟨O, 4, none⟩) h1 _).setCell (p := ⟨O, 5, none⟩) h1 _).setCell (p := ⟨O, 6, none⟩) h1 _).setCell (p := ⟨O, 7, none⟩) h1 _
set_option maxHeartbeats 1000000 in
set_option maxRecDepth 100000 in
theorem catch_stop (O E : Nat) (hOE : O ≠ E) (k e0 : Int) (a0 a4 : ByteArray) (a1 a2 a3 : Int) (a5 a6 a7 : Value) (older : List PanicEntry) (w : World)
    (ho : w.heap[O]? = some (.cells #[.string a0, .int .i64 a1, .int .i64 a2, .int .i64 a3, .string a4, a5, a6, a7] 98 (0, 0))) (he : w.heap[E]? = some (.cells #[.int .i64 e0] 27 (0, 0))) :
    CallsD Tryz.prog 85 #[.pointer (some ⟨O, 0, none⟩), .pointer (some ⟨E, 0, none⟩)] (.panicking ({ v := stopV k, recovered := false } :: older)) w fun e u' w' =>
      e = .returned (.tuple #[]) ∧ u' = .panicking ({ v := stopV k, recovered := true } :: older) ∧ w'.heap[O]? = some (.cells zeroOut 98 (0, 0)) ∧ w'.heap[E]? = some (.cells #[.int .i64 k] 27 (0, 0)) ∧ ∀ B, B ≤ O → B ≤ E → B ≤ w.heap.size → Below B w w' := by
  have hbo := Aside0.mk ho
  have hbe := Aside0.mk he
  clear ho he
  refine callsD_of_wpS Tryz.func85 rfl fun c₀ cs hu => ?_
  apply wpS_seq
  apply wpS_region
  simp [wpOpsS, go_sem, recoverD, hu, stopV, Tryz.ntmps85, Exit.thenS]
  refine wpS_of_wp ?_
  rw [show (#[Value.pointer (some ⟨O, 0, none⟩), Value.pointer (some ⟨E, 0, none⟩)] ++ (Array.replicate 12 undef).setIfInBounds 3 (Value.iface 161 (Value.agg #[Value.int IntKind.i64 k]))) = #[.pointer (some ⟨O, 0, none⟩), .pointer (some ⟨E, 0, none⟩), undef, undef, undef, .iface 161 (.agg #[.int .i64 k]), undef, undef, undef, undef, undef, undef, undef, undef] from rfl]
  clear hu
  refine wp_q ?_
  intro Q hQ
  have HQ := Aside0.mk hQ
  clear hQ
  have o0 := blk_cell hbo.out 0
  have o1 := blk_cell hbo.out 1
  have o2 := blk_cell hbo.out 2
  have o3 := blk_cell hbo.out 3
  have o4 := blk_cell hbo.out 4
  have o5 := blk_cell hbo.out 5
  have o6 := blk_cell hbo.out 6
  have o7 := blk_cell hbo.out 7
  have f0 := free_blk (i := 0) hbo.out
  have f1 := free_blk (i := 1) hbo.out
  have f2 := free_blk (i := 2) hbo.out
  have f3 := free_blk (i := 3) hbo.out
  have f4 := free_blk (i := 4) hbo.out
  have f5 := free_blk (i := 5) hbo.out
  have f6 := free_blk (i := 6) hbo.out
  have f7 := free_blk (i := 7) hbo.out
  have e0' := blk_cell hbe.out 0
  have fe := free_blk (i := 0) hbe.out
  have hO := blk_lt hbo.out
  have hE := blk_lt hbe.out
  simp only [List.getElem?_toArray, List.getElem?_cons_zero, List.getElem?_cons_succ] at o0 o1 o2 o3 o4 o5 o6 o7 e0'
  have hta : ∀ w, (Instr.typeAssert (.iface 161 (.agg #[.int .i64 k])) 20 161 true).run Tryz.prog w = .ok (.tuple #[.agg #[.int .i64 k], .bool true]) w := fun _ => rfl
  go_wp2
  generalize hW : w.alloc (.cells #[.int .i64 k] 161) = W
  have s0 : W.cell? ⟨w.heap.size, 0, none⟩ = some (.int .i64 k) := by rw [← hW]; exact blk_cell (heap_alloc_new _ _) 0
  have hbo2 := Aside0.mk (show W.heap[O]? = _ from hW ▸ (Below.heap_alloc w _ _ hO).trans hbo.out)
  have hbe2 := Aside0.mk (show W.heap[E]? = _ from hW ▸ (Below.heap_alloc w _ _ hE).trans hbe.out)
  have hBB := Aside0.mk (show Below w.heap.size w W from hW ▸ below1 _ _)
  have hN1 : O ≠ w.heap.size := by omega
  have hN2 : E ≠ w.heap.size := by omega
  clear hW o0 o1 o2 o3 o4 o5 o6 o7 e0' f0 f1 f2 f3 f4 f5 f6 f7 fe
  generalize w.heap.size = B0 at *
  have o0 := blk_cell hbo2.out 0
  have o1 := blk_cell hbo2.out 1
  have o2 := blk_cell hbo2.out 2
  have o3 := blk_cell hbo2.out 3
  have o4 := blk_cell hbo2.out 4
  have o5 := blk_cell hbo2.out 5
  have o6 := blk_cell hbo2.out 6
  have o7 := blk_cell hbo2.out 7
  have f0 := free_blk (i := 0) hbo2.out
  have f1 := free_blk (i := 1) hbo2.out
  have f2 := free_blk (i := 2) hbo2.out
  have f3 := free_blk (i := 3) hbo2.out
  have f4 := free_blk (i := 4) hbo2.out
  have f5 := free_blk (i := 5) hbo2.out
  have f6 := free_blk (i := 6) hbo2.out
  have f7 := free_blk (i := 7) hbo2.out
  have e0' := blk_cell hbe2.out 0
  have fe := free_blk (i := 0) hbe2.out
  simp only [List.getElem?_toArray, List.getElem?_cons_zero, List.getElem?_cons_succ] at o0 o1 o2 o3 o4 o5 o6 o7 e0'
  go_region
  show Q .normal _ _
  rw [HQ.out]
  refine ⟨rfl, _, rfl, _, results_none rfl _ _ _, rfl, rfl, ?_, ?_, ?_⟩
  · exact blk_drew (blk_far (p := ⟨E, 0, none⟩) (set8 hbo2.out _ _ _ _ _ _ _ _) hOE _)
  · exact blk_drew (blk_set (far8 hbe2.out (Ne.symm hOE) _ _ _ _ _ _ _ _) 0 _)
  · intro B h1 h2 h3
    exact ((below8 (hBB.out.mono h3) h1 _ _ _ _ _ _ _ _).setCell (p := ⟨E, 0, none⟩) h2 _).trans (below_drewN (Below.refl _ _) 1)
end Go.Proofs.YtijgifinhbbmaaaGreatDoor
/- eval.Recipe, where nothing is asked of it: at ErrNone. -/
set_option linter.unusedVariables false
set_option linter.unusedSimpArgs false
namespace Go.Proofs.YtijgifinhbbmaaaGreatDoor
open Go.RowKit Go.Shelf Go.Proofs.YtijgifinhbbmaaaGreatDoorW.PrintWords Go.Proofs.YtijgifinhbbmaaaGreatDoor.Q
theorem blk3 (w : World) (o1 o2 o3 : Obj) : (((w.alloc o1).alloc o2).alloc o3).heap[w.heap.size]? = some o1 ∧ (((w.alloc o1).alloc o2).alloc o3).heap[w.heap.size + 1]? = some o2 ∧ (((w.alloc o1).alloc o2).alloc o3).heap[w.heap.size + 2]? = some o3 := by
  refine ⟨?_, ?_, ?_⟩
  · rw [Below.heap_alloc _ _ _ (by simp; omega), Below.heap_alloc _ _ _ (by simp), heap_alloc_new]
  · rw [Below.heap_alloc _ _ _ (by simp)]; simpa using heap_alloc_new (w.alloc o1) o2
  · simpa using heap_alloc_new ((w.alloc o1).alloc o2) o3
theorem below3 (w : World) (o1 o2 o3 : Obj) : Below w.heap.size w (((w.alloc o1).alloc o2).alloc o3) := (((Below.refl _ _).alloc (Nat.le_refl _) o1).alloc (by simp) o2).alloc (by simp; omega) o3
set_option maxHeartbeats 2000000 in
set_option maxRecDepth 100000 in
theorem recipe_none (x y : Ex) (A B : Option Addr) (c d : Nat) (s : ByteArray) (n m : Int) (w : World) (h5 : Has5 w) (hx : Kd.C kEx w A x.f2.length x.f2) (hcx : x.f2.length ≤ c) (hy : Kd.C kEx w B y.f2.length y.f2) (hcy : y.f2.length ≤ d)
    (hex : eval_Eval.f x.f0 x.f1 x.f2 = some (s, n, 0)) (hs : isPath s = true) (hey : eval_Eval.f y.f0 y.f1 y.f2 = some (v100, m, 0)) :
    Calls Tryz.prog 45 #[.agg #[.int .i64 x.f0, .string x.f1, .slice A x.f2.length c, .int .i64 y.f0, .string y.f1, .slice B y.f2.length d, .slice none 0 0]] w fun e w' => e = .returned (.tuple #[.agg zeroOut, .int .i64 14]) ∧ Below w.heap.size w w' := by
  have H5 := Aside0.mk h5
  have HX := Aside0.mk hx
  have HCX := Aside0.mk hcx
  have HY := Aside0.mk hy
  have HCY := Aside0.mk hcy
  have HEX := Aside0.mk hex
  have HS := Aside0.mk hs
  have HEY := Aside0.mk hey
  clear h5 hx hcx hy hcy hex hs hey
  have hmf : ∀ (fn : Fn) (first cap : Array Value) (w : World), (Instr.makeFunc fn first cap).run Tryz.prog w = .ok (.func fn first cap) w := fun _ _ _ _ => rfl
  go_enter_defers Tryz.func45, Tryz.ntmps45
  go_wp2_with (first | (go_at_call 86; refine (unless_ok _ _).mono ?_; rintro e u ⟨rfl, rfl⟩) | (go_at_call 87; refine (name_ok x A c s n _ (Kd.C_below HX.out (below3 _ _ _ _)) HCX.out HEX.out HS.out).mono ?_; rintro e u1 ⟨rfl, hb⟩; have HB1 := Aside0.mk ((below3 _ _ _ _).trans (hb.mono (by simp; omega))); have HO1 := Aside0.mk ((hb.block (w.heap.size + 1) (by simp)).trans (blk3 _ _ _ _).2.1); have HE1 := Aside0.mk ((hb.block (w.heap.size + 2) (by simp)).trans (blk3 _ _ _ _).2.2); have HX1 := Aside0.mk ((hb.block w.heap.size (by simp; omega)).trans (blk3 _ _ _ _).1); have L1 : w.heap.size + 2 < u1.heap.size := (by have := hb.size; simp at this; omega); clear hb; have x3 := blk_cell HX1.out 3; have x4 := blk_cell HX1.out 4; have x5 := blk_cell HX1.out 5; have o0 := blk_cell HO1.out 0; have fo0 := free_blk (i := 0) HO1.out; simp only [List.getElem?_toArray, List.getElem?_cons_zero, List.getElem?_cons_succ] at x3 x4 x5 o0) | (go_at_call 89; refine (text_ok y B d v100 m _ (Kd.C_below HY.out (HB1.out.setCell (p := ⟨w.heap.size + 1, 0, none⟩) (by simp) _)) HCY.out HEY.out).mono ?_; rintro e u2 ⟨rfl, hb⟩; have HB2 := Aside0.mk ((HB1.out.setCell (p := ⟨w.heap.size + 1, 0, none⟩) (by simp) (.string s)).trans (hb.mono (by simp; omega))); have HO2 := Aside0.mk ((hb.block (w.heap.size + 1) (by simp; omega)).trans (blk_set HO1.out 0 _)); have HE2 := Aside0.mk ((hb.block (w.heap.size + 2) (by simp; omega)).trans (blk_far (p := ⟨w.heap.size + 1, 0, none⟩) HE1.out (by simp) _)); have HX2 := Aside0.mk ((hb.block w.heap.size (by simp; omega)).trans (blk_far (p := ⟨w.heap.size + 1, 0, none⟩) HX1.out (by simp) _)); have L2 : w.heap.size + 2 < u2.heap.size := (by have := hb.size; simp at this; omega); clear hb x3 x4 x5 o0 fo0 L1 HX1 HO1 HE1) | (go_at_call 88; refine (vparse100 _ (H5.out.below HB2.out)).mono ?_; rintro e u3 ⟨rfl, hb⟩; have HB3 := Aside0.mk (HB2.out.trans (hb.mono HB2.out.size)); have HO3 := Aside0.mk ((hb.block (w.heap.size + 1) (by omega)).trans HO2.out); have HE3 := Aside0.mk ((hb.block (w.heap.size + 2) (by omega)).trans HE2.out); have HX3 := Aside0.mk ((hb.block w.heap.size (by omega)).trans HX2.out); have L3 : w.heap.size + 2 < u3.heap.size := (by have := hb.size; omega); clear hb L2 HX2 HO2 HE2; have x6 := blk_cell HX3.out 6; have o1 := blk_cell HO3.out 1; have o2 := blk_cell HO3.out 2; have o3 := blk_cell HO3.out 3; have e0 := blk_cell HE3.out 0; have fo1 := free_blk (i := 1) HO3.out; have fo2 := free_blk (i := 2) HO3.out; have fo3 := free_blk (i := 3) HO3.out; have fe := free_blk (i := 0) HE3.out; simp only [List.setIfInBounds_toArray, List.set_cons_zero, List.set_cons_succ, List.getElem?_toArray, List.getElem?_cons_zero, List.getElem?_cons_succ] at o1 o2 o3 e0 x6))
  refine wp_loop_rounds 1 ?_
  rw [rounds_succ]
  go_wp2_with (go_at_call 86; refine (unless_no _ _).mono ?_; rintro e u ⟨rfl, rfl⟩; simp only [stopE])
  have hq1 := blk_set (blk_set (blk_set HO3.out 1 (.int .i64 1)) 2 (.int .i64 0)) 3 (.int .i64 0)
  have hq2 := blk_far (p := ⟨w.heap.size + 2, 0, none⟩) hq1 (by simp) (.int .i64 0)
  have hp1 := blk_far (p := ⟨w.heap.size + 1, 3, none⟩) (blk_far (p := ⟨w.heap.size + 1, 2, none⟩) (blk_far (p := ⟨w.heap.size + 1, 1, none⟩) HE3.out (by simp) (.int .i64 1)) (by simp) (.int .i64 0)) (by simp) (.int .i64 0)
  have hp2 := blk_set hp1 0 (.int .i64 0)
  have hb4 := (((HB3.out.setCell (p := ⟨w.heap.size + 1, 1, none⟩) (by simp) (.int .i64 1)).setCell (p := ⟨w.heap.size + 1, 2, none⟩) (by simp) (.int .i64 0)).setCell (p := ⟨w.heap.size + 1, 3, none⟩) (by simp) (.int .i64 0)).setCell (p := ⟨w.heap.size + 2, 0, none⟩) (by simp) (.int .i64 0)
  simp only [List.setIfInBounds_toArray, List.set_cons_zero, List.set_cons_succ] at hq2 hp2
  refine leaves_cons (f := 85) (args := #[.pointer (some ⟨w.heap.size + 1, 0, none⟩), .pointer (some ⟨w.heap.size + 2, 0, none⟩)]) (by simp) (by simp [go_sem]) ?_
  refine (catch_stop (w.heap.size + 1) (w.heap.size + 2) (by simp) 14 0 _ _ _ _ _ _ _ _ [] _ hq2 hp2).mono ?_
  rintro e u' w'' ⟨rfl, rfl, hO', hE', hB'⟩
  have hB9 := hb4.trans (hB' w.heap.size (by simp) (by simp) (by simp; omega))
  have r0 := blk_cell hO' 0
  have r1 := blk_cell hO' 1
  have r2 := blk_cell hO' 2
  have r3 := blk_cell hO' 3
  have r4 := blk_cell hO' 4
  have r5 := blk_cell hO' 5
  have r6 := blk_cell hO' 6
  have r7 := blk_cell hO' 7
  have r8 := blk_cell hE' 0
  clear hO' hE' hq1 hq2 hp1 hp2 hB' hb4
  simp only [zeroOut, List.getElem?_toArray, List.getElem?_cons_zero, List.getElem?_cons_succ] at r0 r1 r2 r3 r4 r5 r6 r7 r8
  refine ⟨_, ?_, rfl, hB9⟩
  simp [results, Tryz.results45, go_sem, r0, r1, r2, r3, r4, r5, r6, r7, r8, zeroOut]
end Go.Proofs.YtijgifinhbbmaaaGreatDoor
/- saplinglaw13.alive. -/
set_option linter.unusedVariables false
set_option linter.unusedSimpArgs false
namespace Go.Proofs.YtijgifinhbbmaaaGreatDoor
open Go.RowKit Go.Shelf Go.Proofs.YtijgifinhbbmaaaGreatDoorW.PrintWords Go.Proofs.YtijgifinhbbmaaaGreatDoor.Q
theorem ltext_calls (s : ByteArray) (w : World) : Calls Tryz.prog 49 #[.string s] w fun e w' => e = .returned (.agg #[.int .i64 1, .string s, .slice none 0 0]) ∧ Below w.heap.size w w' := by
  go_enter Tryz.func49, Tryz.ntmps49
  go_wp2
  refine ⟨rfl, _, ?_, rfl, ?_⟩
  · simp [results, Tryz.results49, go_sem]
  · exact below1 _ _
theorem lword_calls (s : ByteArray) (w : World) : Calls Tryz.prog 80 #[.string s] w fun e w' => e = .returned (.agg #[.int .i64 2, .string s, .slice none 0 0]) ∧ Below w.heap.size w w' := by
  go_enter Tryz.func80, Tryz.ntmps80
  go_wp2
  refine ⟨rfl, _, ?_, rfl, ?_⟩
  · simp [results, Tryz.results80, go_sem]
  · exact below1 _ _
theorem alive_e1 (u : World) : Calls Tryz.prog 43 #[.agg #[.int .i64 5, .string ⟨#[120]⟩, .slice (some ⟨u.heap.size + 1, 0, none⟩) 2 2]]
    ((u.alloc (.cells #[.int .i64 2, .string ⟨#[120]⟩, .slice none 0 0, .int .i64 2, .string ⟨#[120]⟩, .slice none 0 0] 84)).alloc (.cells #[.int .i64 1, .string ⟨#[97]⟩, .slice none 0 0, .int .i64 3, .string ⟨#[]⟩, .slice (some ⟨u.heap.size, 0, none⟩) 2 2] 84))
    fun e w' => e = .returned (.tuple #[.string ⟨#[97, 97]⟩, .int .i64 5, .int .i64 0]) ∧ Below u.heap.size u w' := by
  have hb := ((below1 u (.cells #[.int .i64 2, .string ⟨#[120]⟩, .slice none 0 0, .int .i64 2, .string ⟨#[120]⟩, .slice none 0 0] 84)).alloc (by simp) (.cells #[.int .i64 1, .string ⟨#[97]⟩, .slice none 0 0, .int .i64 3, .string ⟨#[]⟩, .slice (some ⟨u.heap.size, 0, none⟩) 2 2] 84))
  have h1 := (Below.heap_alloc (u.alloc (.cells #[.int .i64 2, .string ⟨#[120]⟩, .slice none 0 0, .int .i64 2, .string ⟨#[120]⟩, .slice none 0 0] 84)) (.cells #[.int .i64 1, .string ⟨#[97]⟩, .slice none 0 0, .int .i64 3, .string ⟨#[]⟩, .slice (some ⟨u.heap.size, 0, none⟩) 2 2] 84) u.heap.size (by simp)).trans (heap_alloc_new u _)
  have h2 := heap_alloc_new (u.alloc (.cells #[.int .i64 2, .string ⟨#[120]⟩, .slice none 0 0, .int .i64 2, .string ⟨#[120]⟩, .slice none 0 0] 84)) (.cells #[.int .i64 1, .string ⟨#[97]⟩, .slice none 0 0, .int .i64 3, .string ⟨#[]⟩, .slice (some ⟨u.heap.size, 0, none⟩) 2 2] 84)
  rw [World.size_alloc] at h2
  generalize (u.alloc _).alloc _ = W at *
  have c1 : kEx.C W (some ⟨u.heap.size, 0, none⟩) 2 [wd sX, wd sX] := C_rows h1 [wd sX, wd sX] (by decide) (fun j x hj => by
    match j, hj with
    | 0, hj => cases hj; exact ⟨none, 0, Nat.le_refl _, C_nil _ _, rfl, rfl, rfl⟩
    | 1, hj => cases hj; exact ⟨none, 0, Nat.le_refl _, C_nil _ _, rfl, rfl, rfl⟩)
  have c2 : kEx.C W (some ⟨u.heap.size + 1, 0, none⟩) 2 e1.f2 := C_rows h2 e1.f2 (by decide) (fun j x hj => by
    match j, hj with
    | 0, hj => cases hj; exact ⟨none, 0, Nat.le_refl _, C_nil _ _, rfl, rfl, rfl⟩
    | 1, hj => cases hj; exact ⟨some ⟨u.heap.size, 0, none⟩, 2, Nat.le_refl _, c1, rfl, rfl, rfl⟩)
  refine (eval_Eval.calls e1.f0 e1.f1 (some ⟨u.heap.size + 1, 0, none⟩) 2 e1.f2 ⟨#[97, 97]⟩ 5 0 W c2 (by decide) ((eval_f e1_all).trans (congrArg some e1_mean))).mono ?_
  rintro e w' ⟨rfl, hb2⟩
  exact ⟨rfl, hb.trans (hb2.mono hb.size)⟩
theorem alive_e2 (u : World) : Calls Tryz.prog 43 #[.agg #[.int .i64 4, .string ⟨#[]⟩, .slice (some ⟨u.heap.size, 0, none⟩) 4 4]]
    (u.alloc (.cells #[.int .i64 1, .string ⟨#[97]⟩, .slice none 0 0, .int .i64 1, .string ⟨#[98]⟩, .slice none 0 0, .int .i64 2, .string ⟨#[121]⟩, .slice none 0 0, .int .i64 1, .string ⟨#[99]⟩, .slice none 0 0] 84))
    fun e w' => e = .returned (.tuple #[.string ⟨#[99]⟩, .int .i64 4, .int .i64 0]) ∧ Below u.heap.size u w' := by
  have hb := below1 u (.cells #[.int .i64 1, .string ⟨#[97]⟩, .slice none 0 0, .int .i64 1, .string ⟨#[98]⟩, .slice none 0 0, .int .i64 2, .string ⟨#[121]⟩, .slice none 0 0, .int .i64 1, .string ⟨#[99]⟩, .slice none 0 0] 84)
  have h1 := heap_alloc_new u (.cells #[.int .i64 1, .string ⟨#[97]⟩, .slice none 0 0, .int .i64 1, .string ⟨#[98]⟩, .slice none 0 0, .int .i64 2, .string ⟨#[121]⟩, .slice none 0 0, .int .i64 1, .string ⟨#[99]⟩, .slice none 0 0] 84)
  generalize u.alloc _ = W at *
  have c2 : kEx.C W (some ⟨u.heap.size, 0, none⟩) 4 e2.f2 := C_rows h1 e2.f2 (by decide) (fun j x hj => by
    match j, hj with
    | 0, hj => cases hj; exact ⟨none, 0, Nat.le_refl _, C_nil _ _, rfl, rfl, rfl⟩
    | 1, hj => cases hj; exact ⟨none, 0, Nat.le_refl _, C_nil _ _, rfl, rfl, rfl⟩
    | 2, hj => cases hj; exact ⟨none, 0, Nat.le_refl _, C_nil _ _, rfl, rfl, rfl⟩
    | 3, hj => cases hj; exact ⟨none, 0, Nat.le_refl _, C_nil _ _, rfl, rfl, rfl⟩)
  refine (eval_Eval.calls e2.f0 e2.f1 (some ⟨u.heap.size, 0, none⟩) 4 e2.f2 ⟨#[99]⟩ 4 0 W c2 (by decide) ((eval_f e2_all).trans (congrArg some e2_mean))).mono ?_
  rintro e w' ⟨rfl, hb2⟩
  exact ⟨rfl, hb.trans (hb2.mono hb.size)⟩
theorem tx_eval {s : ByteArray} (h : s.size ≤ 256) : eval_Eval.f (tx s).f0 (tx s).f1 (tx s).f2 = some (s, 1, 0) := by
  have h1 : AllS (tx s) := allS_leaf (by omega)
  rw [eval_f h1, tx_mean h]
theorem isPathA : isPath sA = true := by decide +kernel
theorem alive_r (u : World) (h5 : Has5 u) : Calls Tryz.prog 45 #[.agg #[.int .i64 1, .string ⟨#[97]⟩, .slice none 0 0, .int .i64 1, .string ⟨#[49, 46, 48, 46, 48]⟩, .slice none 0 0, .slice none 0 0]] u
    fun e w' => e = .returned (.tuple #[.agg #[.string ⟨#[]⟩, .int .i64 0, .int .i64 0, .int .i64 0, .string ⟨#[]⟩, .slice none 0 0, .slice none 0 0, .slice none 0 0], .int .i64 14]) ∧ Below u.heap.size u w' := by
  have hx := tx_eval (s := sA) (by decide)
  have hy := tx_eval (s := v100) (by decide)
  exact recipe_none (tx sA) (tx v100) none none 0 0 sA 1 1 u h5 (C_nil _ _) (Nat.le_refl _) (C_nil _ _) (Nat.le_refl _) hx isPathA hy
set_option maxHeartbeats 2000000 in
set_option maxRecDepth 100000 in
theorem alive_calls (w : World) (h5 : Has5 w) : Calls Tryz.prog 41 #[] w fun e w' => e = .returned (.bool true) ∧ Below w.heap.size w w' := by
  have H5 := Aside0.mk h5
  clear h5
  have HB := Aside0.mk (Below.refl w.heap.size w)
  go_enter Tryz.func41, Tryz.ntmps41
  go_wp2_with (first | (go_at_call 49; refine (ltext_calls _ _).mono ?_; rintro e u ⟨rfl, hb⟩; have HN := Aside0.mk (HB.out.trans (hb.mono HB.out.size)); clear HB hb; have HB := HN; clear HN) | (go_at_call 80; refine (lword_calls _ _).mono ?_; rintro e u ⟨rfl, hb⟩; have HN := Aside0.mk (HB.out.trans (hb.mono HB.out.size)); clear HB hb; have HB := HN; clear HN) | (go_at_call 43; first | (with_reducible refine (alive_e1 _).mono ?_; rintro e u ⟨rfl, hb⟩; have HN := Aside0.mk (HB.out.trans (hb.mono HB.out.size)); clear HB hb; have HB := HN; clear HN) | (with_reducible refine (alive_e2 _).mono ?_; rintro e u ⟨rfl, hb⟩; have HN := Aside0.mk (HB.out.trans (hb.mono HB.out.size)); clear HB hb; have HB := HN; clear HN)) | (go_at_call 45; with_reducible refine (alive_r _ (H5.out.below HB.out)).mono ?_; rintro e u ⟨rfl, hb⟩; have HN := Aside0.mk (HB.out.trans (hb.mono HB.out.size)); clear HB hb; have HB := HN; clear HN))
  go_ret
  exact ⟨rfl, HB.out.alloc HB.out.size _⟩
end Go.Proofs.YtijgifinhbbmaaaGreatDoor
/- saplinglaw13.alive: its contract. -/
namespace Go.Proofs.YtijgifinhbbmaaaGreatDoor
open Go.RowKit
def saplinglaw13_alive.f : Option Bool := some true
theorem saplinglaw13_alive.calls (r : Bool) (w : World) (h5 : Has5 w) (h : saplinglaw13_alive.f = some r) : Calls Tryz.prog 41 #[] w fun e w' => e = .returned (.bool r) ∧ Below w.heap.size w w' := by
  obtain rfl := Option.some.inj h
  exact alive_calls w h5
end Go.Proofs.YtijgifinhbbmaaaGreatDoor
