import Derived.Test.YtijgifinhbbmaaaGreatDoorEX
import Derived.Test.YtijgifinhbbmaaaGreatDoorSh
import Derived.Deep.RegionWith
set_option linter.unusedVariables false
set_option linter.unusedSimpArgs false
namespace Go.Proofs.YtijgifinhbbmaaaGreatDoor
open Go.RowKit Go.Proofs.YtijgifinhbbmaaaGreatDoorW.PrintWords Go.Proofs.YtijgifinhbbmaaaGreatDoor.Q
theorem IsM.below {w0 W W' : World} {M : Nat} {st : St} (h : IsM w0 W M st) (hb : Below W.heap.size W W') : IsM w0 W' M st := by
  obtain ⟨sv, cs, vs, h1, h2, h3, h4, h5, h6⟩ := h
  refine ⟨sv, cs, vs, (hb.block M (blk_lt h1)).trans h1, h2, pw_own_below h3 hb, h4.kept (Kept.of_below hb (fun _ => False)) (fun _ _ _ h => h) (fun _ _ _ _ h => h), h5, below_then h6 h6.size hb⟩
theorem IsM.fault {w0 W : World} {M : Nat} {st : St} (h : IsM w0 W M st) (k : Int) : IsM w0 (W.setCell ⟨M, 2, none⟩ (.int .i64 k)) M { st with fault := k } := by
  obtain ⟨sv, cs, vs, hb, hm, ho, hf, ha, hB⟩ := h
  have K := ((Kept.refl W (fun k => k = M ∨ sv.ownBlock = some k)).setCell (p := ⟨M, 2, none⟩) (.inl (.inl rfl)) (.int .i64 k))
  have nn : NoNames W (fun k => k = M ∨ sv.ownBlock = some k) := (no_names_blk hb (by decide)).or (no_names_own ho (by decide))
  exact ⟨sv, cs, vs, blk_set hb 2 _, hm, own_setCell ho (p := ⟨M, 2, none⟩) (fun e => own_no ho hb (by decide) e.symm) _, hf.kept K nn (hf.rows_no hb ho), ha, hB.setCell (p := ⟨M, 2, none⟩) hm _⟩
/-- What is told of the frame on top. -/
theorem IsM.top {w0 W : World} {M : Nat} {st : St} {top : Fr} {r : List Fr} (h : IsM w0 W M st) (hfr : st.frs = top :: r) :
    ∃ (g cap c : Nat) (A p : Option Addr) (u : Value), W.cell? ⟨M, 0, none⟩ = some (.slice (some ⟨g, 0, none⟩) (r.length + 1) cap) ∧ W.cell? ⟨M, 2, none⟩ = some (.int .i64 st.fault) ∧ W.frozen? ⟨M, 2, none⟩ = false ∧
      W.cell? ⟨g, r.length * 5, none⟩ = some (.int .i64 top.x.f0) ∧ W.cell? ⟨g, r.length * 5 + 1, none⟩ = some (.string top.x.f1) ∧ W.cell? ⟨g, r.length * 5 + 2, none⟩ = some (.slice A top.x.f2.length c) ∧
      W.cell? ⟨g, r.length * 5 + 3, none⟩ = some u ∧ W.cell? ⟨g, r.length * 5 + 4, none⟩ = some (.pointer p) ∧ M < W.heap.size ∧ top.x.f2.length ≤ c ∧ kEx.C w0 A top.x.f2.length top.x.f2 ∧
      W.ownsRow w0.heap.size 9 1 u top.vals.length (pw_strs top.vals) ∧ Chain W p top.sees ∧ Below w0.heap.size w0 W ∧ w0.heap.size ≤ M ∧ w0.heap.size ≤ g ∧ u.ownBlock ≠ some M ∧ u.ownBlock ≠ some g := by
  obtain ⟨sv, cs, vs, hb, hm, ho, hf, ha, hB⟩ := h
  rw [hfr] at ho hf
  obtain ⟨c1, c2, u0, vs0, rfl, rfl, hf1, hf0⟩ := hf
  have l1 := hf1.len.1
  obtain ⟨A, c, p, rfl, hA, hK, hrow, hch⟩ := hf0
  obtain ⟨g, cap, rfl, _, _, hcells⟩ := own_some ho
  have hc : ∀ i v, [Value.int .i64 top.x.f0, .string top.x.f1, .slice A top.x.f2.length c, u0, .pointer p][i]? = some v → W.cell? ⟨g, r.length * 5 + i, none⟩ = some v := fun i v hi => (hcells _ v (by rw [List.getElem?_append_right (by omega), l1]; simpa using hi)).1
  exact ⟨g, cap, c, A, p, u0, blk_cell hb 0, blk_cell hb 2, free_blk hb, hc 0 _ rfl, hc 1 _ rfl, hc 2 _ rfl, hc 3 _ rfl, hc 4 _ rfl, blk_lt hb, hA, hK, hrow, hch, hB, hm, own_base ho g rfl, own_no hrow hb (by decide), (by obtain ⟨cells, hc'⟩ := own_typed ho g rfl; exact own_no hrow hc' (by decide))⟩
set_option maxRecDepth 100000 in
set_option maxHeartbeats 2000000 in
theorem turn_text (w0 W : World) (M : Nat) (st : St) (top : Fr) (r : List Fr) (hM : IsM w0 W M st) (hfr : st.frs = top :: r) (hk : top.x.f0 = 1) (hl : st.frs.length ≤ 4000) (hv : ∀ fr ∈ st.frs, fr.vals.length ≤ 4000000000) (hs : top.x.f1.size ≤ 140737488355328) :
    Calls Tryz.prog 82 #[.pointer (some ⟨M, 0, none⟩)] W fun e W' => e = .returned (.tuple #[.string (doneS st top.x.f1).2.1, .bool (doneS st top.x.f1).2.2]) ∧ IsM w0 W' M (doneS st top.x.f1).1 := by
  obtain ⟨g, cap, c, A, p, u, m0, m2, mf, t0, t1, t2, t3, t4, hlt, hc, hK, hrow, hch, hB, hx1, hx2, hx3, hx4⟩ := hM.top hfr
  have hlg := World.block_lt_of_cell? W _ t0
  rw [hk] at t0
  obtain ⟨A0, c0, rfl⟩ := own_slice hrow
  have hb1 : Below W.heap.size W ((W.alloc (.cells #[.int .i64 1, .string top.x.f1, .slice A top.x.f2.length c, .slice A0 top.vals.length c0, .pointer p] 213)).drew) := ((Below.refl _ _).alloc (Nat.le_refl _) _).drew
  have h7 : (r.length : Int) ≤ 4000 := by rw [hfr] at hl; simp at hl; omega
  have h5 : (0 : Int) ≤ (r.length : Int) := by omega
  have h6 : (r.length : Int) < (r.length : Int) + 1 := by omega
  have HD := Aside0.mk (done_calls w0 ((W.alloc (.cells #[.int .i64 1, .string top.x.f1, .slice A top.x.f2.length c, .slice A0 top.vals.length c0, .pointer p] 213)).drew) M st top.x.f1 (hM.below hb1) (by rw [hfr]; simp) hs hl hv)
  clear hs
  clear hM hrow hch hK hB hc hk hl hv hb1 hx1 hx2 hx3 hx4
  go_enter Tryz.func82, Tryz.ntmps82
  go_wp2
  go_region
  go_wp2_with fail
  refine HD.out.mono ?_
  rintro e w' ⟨rfl, h⟩
  go_wp2
  go_ret2
  exact ⟨rfl, h⟩
set_option maxRecDepth 100000 in
set_option maxHeartbeats 2000000 in
theorem turn_name (w0 W : World) (M : Nat) (st : St) (top : Fr) (r : List Fr) (hM : IsM w0 W M st) (hfr : st.frs = top :: r) (hk : top.x.f0 = 2) (hl : st.frs.length ≤ 4000) (hv : ∀ fr ∈ st.frs, fr.vals.length ≤ 4000000000) (s : ByteArray) (hlook : look top.sees top.x.f1 = (s, true)) (hs : s.size ≤ 140737488355328) :
    Calls Tryz.prog 82 #[.pointer (some ⟨M, 0, none⟩)] W fun e W' => e = .returned (.tuple #[.string (doneS st s).2.1, .bool (doneS st s).2.2]) ∧ IsM w0 W' M (doneS st s).1 := by
  obtain ⟨g, cap, c, A, p, u, m0, m2, mf, t0, t1, t2, t3, t4, hlt, hc, hK, hrow, hch, hB, hx1, hx2, hx3, hx4⟩ := hM.top hfr
  have hlg := World.block_lt_of_cell? W _ t0
  rw [hk] at t0
  obtain ⟨A0, c0, rfl⟩ := own_slice hrow
  have hb1 : Below W.heap.size W ((W.alloc (.cells #[.int .i64 2, .string top.x.f1, .slice A top.x.f2.length c, .slice A0 top.vals.length c0, .pointer p] 213)).drew) := ((Below.refl _ _).alloc (Nat.le_refl _) _).drew
  have h7 : (r.length : Int) ≤ 4000 := by rw [hfr] at hl; simp at hl; omega
  have h5 : (0 : Int) ≤ (r.length : Int) := by omega
  have h6 : (r.length : Int) < (r.length : Int) + 1 := by omega
  have HD := Aside0.mk (done_calls w0 ((W.alloc (.cells #[.int .i64 2, .string top.x.f1, .slice A top.x.f2.length c, .slice A0 top.vals.length c0, .pointer p] 213)).drew) M st s (hM.below hb1) (by rw [hfr]; simp) hs hl hv)
  have hF := find_calls ((W.alloc (.cells #[.int .i64 2, .string top.x.f1, .slice A top.x.f2.length c, .slice A0 top.vals.length c0, .pointer p] 213)).drew) p top.sees top.x.f1 (hch.below hb1)
  rw [hlook] at hF
  have HF := Aside0.mk hF
  clear hF hs hlook
  clear hM hrow hch hK hB hc hk hl hv hb1 hx1 hx2 hx3 hx4
  go_enter Tryz.func82, Tryz.ntmps82
  go_wp2
  go_region
  go_wp2_with fail
  refine HF.out.mono ?_
  rintro e w' ⟨rfl, rfl⟩
  go_wp2_with fail
  refine HD.out.mono ?_
  rintro e w' ⟨rfl, h⟩
  go_wp2
  go_ret2
  exact ⟨rfl, h⟩
set_option maxRecDepth 100000 in
set_option maxHeartbeats 2000000 in
theorem turn_noname (w0 W : World) (M : Nat) (st : St) (top : Fr) (r : List Fr) (hM : IsM w0 W M st) (hfr : st.frs = top :: r) (hk : top.x.f0 = 2) (hl : st.frs.length ≤ 4000) (hv : ∀ fr ∈ st.frs, fr.vals.length ≤ 4000000000) (s : ByteArray) (hlook : look top.sees top.x.f1 = (s, false)) :
    Calls Tryz.prog 82 #[.pointer (some ⟨M, 0, none⟩)] W fun e W' => e = .returned (.tuple #[.string ⟨#[]⟩, .bool false]) ∧ IsM w0 W' M { st with fault := 51 } := by
  obtain ⟨g, cap, c, A, p, u, m0, m2, mf, t0, t1, t2, t3, t4, hlt, hc, hK, hrow, hch, hB, hx1, hx2, hx3, hx4⟩ := hM.top hfr
  have hlg := World.block_lt_of_cell? W _ t0
  rw [hk] at t0
  obtain ⟨A0, c0, rfl⟩ := own_slice hrow
  have hb1 : Below W.heap.size W ((W.alloc (.cells #[.int .i64 2, .string top.x.f1, .slice A top.x.f2.length c, .slice A0 top.vals.length c0, .pointer p] 213)).drew) := ((Below.refl _ _).alloc (Nat.le_refl _) _).drew
  have h7 : (r.length : Int) ≤ 4000 := by rw [hfr] at hl; simp at hl; omega
  have h5 : (0 : Int) ≤ (r.length : Int) := by omega
  have h6 : (r.length : Int) < (r.length : Int) + 1 := by omega
  have HM := Aside0.mk (fun o => (hM.fault 51).below (((Below.refl _ _).alloc (Nat.le_refl _) o).drew))
  have hF := find_calls ((W.alloc (.cells #[.int .i64 2, .string top.x.f1, .slice A top.x.f2.length c, .slice A0 top.vals.length c0, .pointer p] 213)).drew) p top.sees top.x.f1 (hch.below hb1)
  rw [hlook] at hF
  have HF := Aside0.mk hF
  clear hF hlook
  clear hM hrow hch hK hB hc hk hl hv hb1 hx1 hx2 hx3 hx4
  go_enter Tryz.func82, Tryz.ntmps82
  go_wp2
  go_region
  go_wp2_with fail
  refine HF.out.mono ?_
  rintro e w' ⟨rfl, rfl⟩
  go_wp2
  go_ret2
  exact ⟨rfl, HM.out _⟩
set_option maxRecDepth 100000 in
set_option maxHeartbeats 2000000 in
theorem turn_cat (w0 W : World) (M : Nat) (st : St) (top : Fr) (r : List Fr) (hM : IsM w0 W M st) (hfr : st.frs = top :: r) (hk : top.x.f0 = 3) (hl : st.frs.length ≤ 4000) (hv : ∀ fr ∈ st.frs, fr.vals.length ≤ 4000000000) (hn : top.vals.length = top.x.f2.length) (hn0 : 0 < top.vals.length) (hs : (Lib.join (top.vals.map (·.data.toList)) []).length ≤ 140737488355328) :
    Calls Tryz.prog 82 #[.pointer (some ⟨M, 0, none⟩)] W fun e W' => e = .returned (.tuple #[.string (doneS st ⟨(Lib.join (top.vals.map (·.data.toList)) []).toArray⟩).2.1, .bool (doneS st ⟨(Lib.join (top.vals.map (·.data.toList)) []).toArray⟩).2.2]) ∧ IsM w0 W' M (doneS st ⟨(Lib.join (top.vals.map (·.data.toList)) []).toArray⟩).1 := by
  obtain ⟨g, cap, c, A, p, u, m0, m2, mf, t0, t1, t2, t3, t4, hlt, hc, hK, hrow, hch, hB, hx1, hx2, hx3, hx4⟩ := hM.top hfr
  have hlg := World.block_lt_of_cell? W _ t0
  rw [hk] at t0
  obtain ⟨n1, hn1⟩ : ∃ n1, top.vals.length = n1 + 1 := ⟨top.vals.length - 1, by omega⟩
  obtain ⟨vb, c0, rfl, hvc, _, hvals⟩ := own_some (show W.ownsRow w0.heap.size 9 1 u (n1 + 1) (pw_strs top.vals) by rw [← hn1]; exact hrow)
  rw [← hn1] at t3 hvc
  have hb1 : Below W.heap.size W ((W.alloc (.cells #[.int .i64 3, .string top.x.f1, .slice A top.x.f2.length c, .slice (some ⟨vb, 0, none⟩) top.vals.length c0, .pointer p] 213)).drew) := ((Below.refl _ _).alloc (Nat.le_refl _) _).drew
  have h7 : (r.length : Int) ≤ 4000 := by rw [hfr] at hl; simp at hl; omega
  have h5 : (0 : Int) ≤ (r.length : Int) := by omega
  have h6 : (r.length : Int) < (r.length : Int) + 1 := by omega
  have hbv := World.block_lt_of_cell? W _ (hvals 0 (.string (top.vals[0]'(by omega))) (by simp [pw_strs, List.getElem?_eq_getElem (show 0 < top.vals.length by omega)])).1
  have hJ := Tryz.strings_Join vb 0 c0 top.vals ⟨#[]⟩ ((W.alloc (.cells #[.int .i64 3, .string top.x.f1, .slice A top.x.f2.length c, .slice (some ⟨vb, 0, none⟩) top.vals.length c0, .pointer p] 213)).drew) (fun j x hx => (hb1.cell (p := ⟨vb, 0 + j, none⟩) hbv).trans (by rw [Nat.zero_add]; exact (hvals j (.string x) (by simp [pw_strs, hx])).1)) (Nat.lt_of_lt_of_le hbv hb1.size) (by have := hv top (by rw [hfr]; simp); omega) (by omega) hs
  have HJ := Aside0.mk hJ
  clear hJ hvals hbv
  have hb2 := hb1
  have HD := Aside0.mk (fun (w2 : World) (h2 : Below (((W.alloc (.cells #[.int .i64 3, .string top.x.f1, .slice A top.x.f2.length c, .slice (some ⟨vb, 0, none⟩) top.vals.length c0, .pointer p] 213)).drew)).heap.size ((W.alloc (.cells #[.int .i64 3, .string top.x.f1, .slice A top.x.f2.length c, .slice (some ⟨vb, 0, none⟩) top.vals.length c0, .pointer p] 213)).drew) w2) => done_calls w0 w2 M st ⟨(Lib.join (top.vals.map (·.data.toList)) []).toArray⟩ ((hM.below hb1).below h2) (by rw [hfr]; simp) (by simpa [ByteArray.size] using hs) hl hv)
  have hnn : ((top.vals.length : Int) == (top.x.f2.length : Int)) = true := by simp [hn]
  clear hs hn hn0 hn1 hb2 hvc
  clear hM hrow hch hK hB hc hk hl hv hb1 hx1 hx2 hx3 hx4
  go_enter Tryz.func82, Tryz.ntmps82
  go_wp2
  go_region
  go_wp2_with fail
  refine HJ.out.mono ?_
  rintro e w2 ⟨rfl, hbj⟩
  have HB := Aside0.mk hbj
  clear hbj
  go_wp2_with fail
  refine (HD.out w2 HB.out).mono ?_
  rintro e w' ⟨rfl, h⟩
  go_wp2
  go_ret2
  exact ⟨rfl, h⟩
set_option maxRecDepth 100000 in
set_option maxHeartbeats 2000000 in
theorem turn_if3 (w0 W : World) (M : Nat) (st : St) (top : Fr) (r : List Fr) (hM : IsM w0 W M st) (hfr : st.frs = top :: r) (hk : top.x.f0 = 4) (hl : st.frs.length ≤ 4000) (hv : ∀ fr ∈ st.frs, fr.vals.length ≤ 4000000000) (hn : top.vals.length = 3) (s : ByteArray) (hvs : top.vals[2]? = some s) (hs : s.size ≤ 140737488355328) :
    Calls Tryz.prog 82 #[.pointer (some ⟨M, 0, none⟩)] W fun e W' => e = .returned (.tuple #[.string (doneS st s).2.1, .bool (doneS st s).2.2]) ∧ IsM w0 W' M (doneS st s).1 := by
  obtain ⟨g, cap, c, A, p, u, m0, m2, mf, t0, t1, t2, t3, t4, hlt, hc, hK, hrow, hch, hB, hx1, hx2, hx3, hx4⟩ := hM.top hfr
  have hlg := World.block_lt_of_cell? W _ t0
  rw [hk] at t0
  obtain ⟨vb, c0, rfl, hvc, _, hvals⟩ := own_some (show W.ownsRow w0.heap.size 9 1 u (2 + 1) (pw_strs top.vals) by have h := hrow; rw [hn] at h; exact h)
  simp only [Nat.reduceAdd, Nat.zero_add] at t3 hvc
  have hb1 : Below W.heap.size W ((W.alloc (.cells #[.int .i64 4, .string top.x.f1, .slice A top.x.f2.length c, .slice (some ⟨vb, 0, none⟩) 3 c0, .pointer p] 213)).drew) := ((Below.refl _ _).alloc (Nat.le_refl _) _).drew
  have h7 : (r.length : Int) ≤ 4000 := by rw [hfr] at hl; simp at hl; omega
  have h5 : (0 : Int) ≤ (r.length : Int) := by omega
  have h6 : (r.length : Int) < (r.length : Int) + 1 := by omega
  have HD := Aside0.mk (done_calls w0 ((W.alloc (.cells #[.int .i64 4, .string top.x.f1, .slice A top.x.f2.length c, .slice (some ⟨vb, 0, none⟩) 3 c0, .pointer p] 213)).drew) M st s (hM.below hb1) (by rw [hfr]; simp) hs hl hv)
  have v2 := (hvals 2 (.string s) (by simp [pw_strs, hvs])).1
  have hbv := World.block_lt_of_cell? W _ v2
  clear hs hvs hvals hvc
  clear hM hrow hch hK hB hc hk hl hv hb1 hx1 hx2 hx3 hx4
  go_enter Tryz.func82, Tryz.ntmps82
  go_wp2
  go_region
  go_wp2_with fail
  refine HD.out.mono ?_
  rintro e w' ⟨rfl, h⟩
  go_wp2
  go_ret2
  exact ⟨rfl, h⟩
set_option maxRecDepth 100000 in
set_option maxHeartbeats 2000000 in
theorem turn_let2 (w0 W : World) (M : Nat) (st : St) (top : Fr) (r : List Fr) (hM : IsM w0 W M st) (hfr : st.frs = top :: r) (hk : top.x.f0 = 5) (hl : st.frs.length ≤ 4000) (hv : ∀ fr ∈ st.frs, fr.vals.length ≤ 4000000000) (hn : top.vals.length = 2) (s : ByteArray) (hvs : top.vals[1]? = some s) (hs : s.size ≤ 140737488355328) :
    Calls Tryz.prog 82 #[.pointer (some ⟨M, 0, none⟩)] W fun e W' => e = .returned (.tuple #[.string (doneS st s).2.1, .bool (doneS st s).2.2]) ∧ IsM w0 W' M (doneS st s).1 := by
  obtain ⟨g, cap, c, A, p, u, m0, m2, mf, t0, t1, t2, t3, t4, hlt, hc, hK, hrow, hch, hB, hx1, hx2, hx3, hx4⟩ := hM.top hfr
  have hlg := World.block_lt_of_cell? W _ t0
  rw [hk] at t0
  obtain ⟨vb, c0, rfl, hvc, _, hvals⟩ := own_some (show W.ownsRow w0.heap.size 9 1 u (1 + 1) (pw_strs top.vals) by have h := hrow; rw [hn] at h; exact h)
  simp only [Nat.reduceAdd, Nat.zero_add] at t3 hvc
  have hb1 : Below W.heap.size W ((W.alloc (.cells #[.int .i64 5, .string top.x.f1, .slice A top.x.f2.length c, .slice (some ⟨vb, 0, none⟩) 2 c0, .pointer p] 213)).drew) := ((Below.refl _ _).alloc (Nat.le_refl _) _).drew
  have h7 : (r.length : Int) ≤ 4000 := by rw [hfr] at hl; simp at hl; omega
  have h5 : (0 : Int) ≤ (r.length : Int) := by omega
  have h6 : (r.length : Int) < (r.length : Int) + 1 := by omega
  have HD := Aside0.mk (done_calls w0 ((W.alloc (.cells #[.int .i64 5, .string top.x.f1, .slice A top.x.f2.length c, .slice (some ⟨vb, 0, none⟩) 2 c0, .pointer p] 213)).drew) M st s (hM.below hb1) (by rw [hfr]; simp) hs hl hv)
  have v2 := (hvals 1 (.string s) (by simp [pw_strs, hvs])).1
  have hbv := World.block_lt_of_cell? W _ v2
  clear hs hvs hvals hvc
  clear hM hrow hch hK hB hc hk hl hv hb1 hx1 hx2 hx3 hx4
  go_enter Tryz.func82, Tryz.ntmps82
  go_wp2
  go_region
  go_wp2_with fail
  refine HD.out.mono ?_
  rintro e w' ⟨rfl, h⟩
  go_wp2
  go_ret2
  exact ⟨rfl, h⟩
end Go.Proofs.YtijgifinhbbmaaaGreatDoor
set_option linter.unusedVariables false
set_option linter.unusedSimpArgs false
namespace Go.Proofs.YtijgifinhbbmaaaGreatDoor
open Go.RowKit Go.Proofs.YtijgifinhbbmaaaGreatDoorW.PrintWords Go.Proofs.YtijgifinhbbmaaaGreatDoor.Q
theorem add_lit (ad : Addr) (n : Nat) (h : n ≠ 0) : ad.add n = ⟨ad.block, ad.off + n, none⟩ := by unfold Addr.add; rw [if_neg h]
theorem addr_zero (ad : Addr) : ad.add 0 = ad := by simp [Addr.add]
theorem begin_kept {w2 : World} {M g n cap : Nat} {args : Array Value} {R : World → Prop} (hst : w2.cell? ⟨M, 0, none⟩ = some (.slice (some ⟨g, 0, none⟩) n cap))
    (h : Calls Tryz.prog 81 args w2 fun e W' => e = .returned (.tuple #[]) ∧ R W' ∧ Kept w2 W' (fun k => k = M ∨ stackOf w2 M = some k)) :
    Calls Tryz.prog 81 args w2 fun e W' => e = .returned (.tuple #[]) ∧ R W' ∧ Kept w2 W' (fun k => k = M ∨ k = g) :=
  h.mono fun e W' ⟨h1, h2, h3⟩ => ⟨h1, h2, h3.mono fun k hk => hk.imp_right fun hs => by rw [stackOf_eq hst] at hs; simpa [Value.ownBlock] using hs.symm⟩
theorem kid_block {w0 : World} {ad : Addr} {n : Nat} {xs : List Ex} (h : kEx.C w0 (some ad) n xs) (i : Int) (h0 : 0 ≤ i) (h1 : i < n) : ad.block < w0.heap.size := by
  obtain ⟨ad', A2', c2', e, r0, _⟩ := at_T84 h i h0 h1
  cases e
  have := World.block_lt_of_cell? w0 _ r0
  unfold Addr.add at this
  split at this <;> exact this
/-- A kid's kids came in with it. -/
theorem kid_came {w0 W : World} {A : Option Addr} {n : Nat} {xs : List Ex} (h : kEx.C w0 A n xs) (hB : Below w0.heap.size w0 W) (i : Int) (h0 : 0 ≤ i) (h1 : i < n) {ad : Addr} {A2 : Option Addr} {c2 : Nat} (hA : A = some ad)
    (q2 : W.cell? ⟨(ad.add (i.toNat * 3)).block, (ad.add (i.toNat * 3)).off + 2, none⟩ = some (.slice A2 (rd_T84 xs i).f2.length c2)) : kEx.C w0 A2 (rd_T84 xs i).f2.length (rd_T84 xs i).f2 := by
  obtain ⟨ad', A2', c2', e, _, _, r2, _, g2⟩ := at_T84 h i h0 h1
  rw [hA] at e
  cases e
  have r3 := (hB.cell (World.block_lt_of_cell? w0 _ r2)).trans r2
  rw [r3] at q2
  cases q2
  exact g2
set_option maxRecDepth 100000 in
set_option maxHeartbeats 2000000 in
theorem turn_if0 (w0 W : World) (M : Nat) (st : St) (top : Fr) (r : List Fr) (hM : IsM w0 W M st) (hfr : st.frs = top :: r) (hk : top.x.f0 = 4) (hl : st.frs.length ≤ 4000) (hv : ∀ fr ∈ st.frs, fr.vals.length ≤ 4000000000) (hn : top.vals.length = 0) (hi : 0 < top.x.f2.length) (hT0 : 0 ≤ st.turns) (hT1 : st.turns ≤ 1000) :
    Calls Tryz.prog 82 #[.pointer (some ⟨M, 0, none⟩)] W fun e W' => e = .returned (.tuple #[.string ⟨#[]⟩, .bool false]) ∧ IsM w0 W' M (beginS st (rd_T84 top.x.f2 0) top.sees) := by
  obtain ⟨g, cap, c, A, p, u, m0, m2, mf, t0, t1, t2, t3, t4, hlt, hc, hK, hrow, hch, hB, hx1, hx2, hx3, hx4⟩ := hM.top hfr
  have hlg := World.block_lt_of_cell? W _ t0
  rw [hk] at t0
  obtain ⟨A0, c0, rfl⟩ := own_slice hrow
  rw [hn] at t3
  have hKW := Kd.C_below hK hB
  obtain ⟨ad, A2, c2, rfl, q0, q1, q2, hl2, hC2⟩ := at_T84 hKW 0 (by omega) (by omega)
  have hC0 : kEx.C w0 A2 (rd_T84 top.x.f2 0).f2.length (rd_T84 top.x.f2 0).f2 := kid_came hK hB 0 (by omega) (by omega) rfl q2
  have hbq := World.block_lt_of_cell? W _ q0
  have hbq1 := World.block_lt_of_cell? W _ q1
  have hbq2 := World.block_lt_of_cell? W _ q2
  simp only [Int.reduceToNat, Nat.reduceMul, Int.toNat_zero, Nat.zero_mul, Int.toNat_one, Nat.one_mul, addr_zero] at q0 q1 q2 hbq hbq1 hbq2
  have hi2 : (0 : Int) < (top.x.f2.length : Int) := by omega
  have hi3 : 0 < top.x.f2.length := by omega
  generalize rd_T84 top.x.f2 0 = kx at *
  have hb1 : Below W.heap.size W ((W.alloc (.cells #[.int .i64 4, .string top.x.f1, .slice (some ad) top.x.f2.length c, .slice A0 0 c0, .pointer p] 213)).drew) := ((Below.refl _ _).alloc (Nat.le_refl _) _).drew
  have h7 : (r.length : Int) ≤ 4000 := by rw [hfr] at hl; simp at hl; omega
  have h5 : (0 : Int) ≤ (r.length : Int) := by omega
  have h6 : (r.length : Int) < (r.length : Int) + 1 := by omega
  have HD := Aside0.mk (fun (w2 : World) (h2 : Below (((W.alloc (.cells #[.int .i64 4, .string top.x.f1, .slice (some ad) top.x.f2.length c, .slice A0 0 c0, .pointer p] 213)).drew)).heap.size ((W.alloc (.cells #[.int .i64 4, .string top.x.f1, .slice (some ad) top.x.f2.length c, .slice A0 0 c0, .pointer p] 213)).drew) w2) => begin_calls w0 w2 M st kx A2 c2 p top.sees ((hM.below hb1).below h2) hC0 hl2 ((hch.below hb1).below h2) hT0 hT1 hl)
  clear hKW hC0 hl2 hC2 hi hT0 hT1
  clear hn
  clear hM hrow hch hK hB hc hk hl hv hb1 hx1 hx2 hx3 hx4
  go_enter Tryz.func82, Tryz.ntmps82
  go_wp2
  go_region
  go_wp2
  go_region
  go_wp2_with fail
  go_region_with (first | (go_at_call 81; refine (HD.out _ (by first | exact Below.refl _ _ | exact (Below.refl _ _).drew | exact (Below.refl _ _).drew.drew | exact below_drewN (Below.refl _ _) _)).mono ?_; rintro e w' ⟨rfl, h, hkp⟩))
  all_goals go_wp2
  all_goals go_ret2
  all_goals exact ⟨rfl, h⟩
set_option maxRecDepth 100000 in
set_option maxHeartbeats 2000000 in
theorem turn_if1 (w0 W : World) (M : Nat) (st : St) (top : Fr) (r : List Fr) (hM : IsM w0 W M st) (hfr : st.frs = top :: r) (hk : top.x.f0 = 4) (hl : st.frs.length ≤ 4000) (hv : ∀ fr ∈ st.frs, fr.vals.length ≤ 4000000000) (hn : top.vals.length = 1) (hi : 1 < top.x.f2.length) (hT0 : 0 ≤ st.turns) (hT1 : st.turns ≤ 1000) :
    Calls Tryz.prog 82 #[.pointer (some ⟨M, 0, none⟩)] W fun e W' => e = .returned (.tuple #[.string ⟨#[]⟩, .bool false]) ∧ IsM w0 W' M (beginS st (rd_T84 top.x.f2 1) top.sees) := by
  obtain ⟨g, cap, c, A, p, u, m0, m2, mf, t0, t1, t2, t3, t4, hlt, hc, hK, hrow, hch, hB, hx1, hx2, hx3, hx4⟩ := hM.top hfr
  have hlg := World.block_lt_of_cell? W _ t0
  rw [hk] at t0
  obtain ⟨vb, c0, rfl, hvc, _, hvals⟩ := own_some (show W.ownsRow w0.heap.size 9 1 u (0 + 1) (pw_strs top.vals) by have h := hrow; rw [hn] at h; exact h)
  simp only [Nat.reduceAdd, Nat.zero_add] at t3 hvc
  have hKW := Kd.C_below hK hB
  obtain ⟨ad, A2, c2, rfl, q0, q1, q2, hl2, hC2⟩ := at_T84 hKW 1 (by omega) (by omega)
  have hC0 : kEx.C w0 A2 (rd_T84 top.x.f2 1).f2.length (rd_T84 top.x.f2 1).f2 := kid_came hK hB 1 (by omega) (by omega) rfl q2
  have hbq := World.block_lt_of_cell? W _ q0
  have hbq1 := World.block_lt_of_cell? W _ q1
  have hbq2 := World.block_lt_of_cell? W _ q2
  simp only [Int.reduceToNat, Nat.reduceMul, Int.toNat_zero, Nat.zero_mul, Int.toNat_one, Nat.one_mul, addr_zero] at q0 q1 q2 hbq hbq1 hbq2
  rw [add_lit ad 3 (by decide)] at q0 q1 q2 hbq hbq1 hbq2
  have hi2 : (1 : Int) < (top.x.f2.length : Int) := by omega
  have hi3 : 1 < top.x.f2.length := by omega
  generalize rd_T84 top.x.f2 1 = kx at *
  have hb1 : Below W.heap.size W ((W.alloc (.cells #[.int .i64 4, .string top.x.f1, .slice (some ad) top.x.f2.length c, .slice (some ⟨vb, 0, none⟩) 1 c0, .pointer p] 213)).drew) := ((Below.refl _ _).alloc (Nat.le_refl _) _).drew
  have h7 : (r.length : Int) ≤ 4000 := by rw [hfr] at hl; simp at hl; omega
  have h5 : (0 : Int) ≤ (r.length : Int) := by omega
  have h6 : (r.length : Int) < (r.length : Int) + 1 := by omega
  have HD := Aside0.mk (fun (w2 : World) (h2 : Below (((W.alloc (.cells #[.int .i64 4, .string top.x.f1, .slice (some ad) top.x.f2.length c, .slice (some ⟨vb, 0, none⟩) 1 c0, .pointer p] 213)).drew)).heap.size ((W.alloc (.cells #[.int .i64 4, .string top.x.f1, .slice (some ad) top.x.f2.length c, .slice (some ⟨vb, 0, none⟩) 1 c0, .pointer p] 213)).drew) w2) => begin_calls w0 w2 M st kx A2 c2 p top.sees ((hM.below hb1).below h2) hC0 hl2 ((hch.below hb1).below h2) hT0 hT1 hl)
  clear hKW hC0 hl2 hC2 hi hT0 hT1
  clear hvc hvals
  clear hn
  clear hM hrow hch hK hB hc hk hl hv hb1 hx1 hx2 hx3 hx4
  go_enter Tryz.func82, Tryz.ntmps82
  go_wp2
  go_region
  go_wp2
  go_region
  go_wp2_with fail
  go_region_with (first | (go_at_call 81; refine (HD.out _ (by first | exact Below.refl _ _ | exact (Below.refl _ _).drew | exact (Below.refl _ _).drew.drew | exact below_drewN (Below.refl _ _) _)).mono ?_; rintro e w' ⟨rfl, h, hkp⟩))
  all_goals go_wp2
  all_goals go_ret2
  all_goals exact ⟨rfl, h⟩
set_option maxRecDepth 100000 in
set_option maxHeartbeats 2000000 in
theorem turn_if2eq (w0 W : World) (M : Nat) (st : St) (top : Fr) (r : List Fr) (hM : IsM w0 W M st) (hfr : st.frs = top :: r) (hk : top.x.f0 = 4) (hl : st.frs.length ≤ 4000) (hv : ∀ fr ∈ st.frs, fr.vals.length ≤ 4000000000) (hn : top.vals.length = 2) (hi : 2 < top.x.f2.length) (hT0 : 0 ≤ st.turns) (hT1 : st.turns ≤ 1000) (s0 : ByteArray) (s1 : ByteArray) (hs0 : top.vals[0]? = some s0) (hs1 : top.vals[1]? = some s1) (he : s0.toList = s1.toList) :
    Calls Tryz.prog 82 #[.pointer (some ⟨M, 0, none⟩)] W fun e W' => e = .returned (.tuple #[.string ⟨#[]⟩, .bool false]) ∧ IsM w0 W' M (beginS st (rd_T84 top.x.f2 2) top.sees) := by
  obtain ⟨g, cap, c, A, p, u, m0, m2, mf, t0, t1, t2, t3, t4, hlt, hc, hK, hrow, hch, hB, hx1, hx2, hx3, hx4⟩ := hM.top hfr
  have hlg := World.block_lt_of_cell? W _ t0
  rw [hk] at t0
  obtain ⟨vb, c0, rfl, hvc, _, hvals⟩ := own_some (show W.ownsRow w0.heap.size 9 1 u (1 + 1) (pw_strs top.vals) by have h := hrow; rw [hn] at h; exact h)
  simp only [Nat.reduceAdd, Nat.zero_add] at t3 hvc
  have hKW := Kd.C_below hK hB
  obtain ⟨ad, A2, c2, rfl, q0, q1, q2, hl2, hC2⟩ := at_T84 hKW 2 (by omega) (by omega)
  have hC0 : kEx.C w0 A2 (rd_T84 top.x.f2 2).f2.length (rd_T84 top.x.f2 2).f2 := kid_came hK hB 2 (by omega) (by omega) rfl q2
  have hbq := World.block_lt_of_cell? W _ q0
  have hbq1 := World.block_lt_of_cell? W _ q1
  have hbq2 := World.block_lt_of_cell? W _ q2
  simp only [Int.reduceToNat, Nat.reduceMul, Int.toNat_zero, Nat.zero_mul, Int.toNat_one, Nat.one_mul, addr_zero] at q0 q1 q2 hbq hbq1 hbq2
  rw [add_lit ad 6 (by decide)] at q0 q1 q2 hbq hbq1 hbq2
  have hi2 : (2 : Int) < (top.x.f2.length : Int) := by omega
  have hi3 : 2 < top.x.f2.length := by omega
  generalize rd_T84 top.x.f2 2 = kx at *
  have hb1 : Below W.heap.size W ((W.alloc (.cells #[.int .i64 4, .string top.x.f1, .slice (some ad) top.x.f2.length c, .slice (some ⟨vb, 0, none⟩) 2 c0, .pointer p] 213)).drew) := ((Below.refl _ _).alloc (Nat.le_refl _) _).drew
  have h7 : (r.length : Int) ≤ 4000 := by rw [hfr] at hl; simp at hl; omega
  have h5 : (0 : Int) ≤ (r.length : Int) := by omega
  have h6 : (r.length : Int) < (r.length : Int) + 1 := by omega
  have v0 := (hvals 0 (.string s0) (by simp [pw_strs, hs0])).1
  have v1 := (hvals 1 (.string s1) (by simp [pw_strs, hs1])).1
  have hbv0 := World.block_lt_of_cell? W _ v0
  have hbv1 := World.block_lt_of_cell? W _ v1
  have he1 : (s0.toList == s1.toList) = true := by simpa using he
  have he2 : (s0.toList != s1.toList) = false := by simpa using he
  clear he
  have HD := Aside0.mk (fun (w2 : World) (h2 : Below (((W.alloc (.cells #[.int .i64 4, .string top.x.f1, .slice (some ad) top.x.f2.length c, .slice (some ⟨vb, 0, none⟩) 2 c0, .pointer p] 213)).drew)).heap.size ((W.alloc (.cells #[.int .i64 4, .string top.x.f1, .slice (some ad) top.x.f2.length c, .slice (some ⟨vb, 0, none⟩) 2 c0, .pointer p] 213)).drew) w2) => begin_calls w0 w2 M st kx A2 c2 p top.sees ((hM.below hb1).below h2) hC0 hl2 ((hch.below hb1).below h2) hT0 hT1 hl)
  clear hKW hC0 hl2 hC2 hi hT0 hT1 hs0 hs1
  clear hvc hvals
  clear hn
  clear hM hrow hch hK hB hc hk hl hv hb1 hx1 hx2 hx3 hx4
  go_enter Tryz.func82, Tryz.ntmps82
  go_wp2
  go_region
  go_wp2
  go_region
  go_wp2_with fail
  go_region_with (first | (go_at_call 81; refine (HD.out _ (by first | exact Below.refl _ _ | exact (Below.refl _ _).drew | exact (Below.refl _ _).drew.drew | exact below_drewN (Below.refl _ _) _)).mono ?_; rintro e w' ⟨rfl, h, hkp⟩))
  all_goals go_wp2
  all_goals go_ret2
  all_goals exact ⟨rfl, h⟩
set_option maxRecDepth 100000 in
set_option maxHeartbeats 2000000 in
theorem turn_let0 (w0 W : World) (M : Nat) (st : St) (top : Fr) (r : List Fr) (hM : IsM w0 W M st) (hfr : st.frs = top :: r) (hk : top.x.f0 = 5) (hl : st.frs.length ≤ 4000) (hv : ∀ fr ∈ st.frs, fr.vals.length ≤ 4000000000) (hn : top.vals.length = 0) (hi : 0 < top.x.f2.length) (hT0 : 0 ≤ st.turns) (hT1 : st.turns ≤ 1000) :
    Calls Tryz.prog 82 #[.pointer (some ⟨M, 0, none⟩)] W fun e W' => e = .returned (.tuple #[.string ⟨#[]⟩, .bool false]) ∧ IsM w0 W' M (beginS st (rd_T84 top.x.f2 0) top.sees) := by
  obtain ⟨g, cap, c, A, p, u, m0, m2, mf, t0, t1, t2, t3, t4, hlt, hc, hK, hrow, hch, hB, hx1, hx2, hx3, hx4⟩ := hM.top hfr
  have hlg := World.block_lt_of_cell? W _ t0
  rw [hk] at t0
  obtain ⟨A0, c0, rfl⟩ := own_slice hrow
  rw [hn] at t3
  have hKW := Kd.C_below hK hB
  obtain ⟨ad, A2, c2, rfl, q0, q1, q2, hl2, hC2⟩ := at_T84 hKW 0 (by omega) (by omega)
  have hC0 : kEx.C w0 A2 (rd_T84 top.x.f2 0).f2.length (rd_T84 top.x.f2 0).f2 := kid_came hK hB 0 (by omega) (by omega) rfl q2
  have hbq := World.block_lt_of_cell? W _ q0
  have hbq1 := World.block_lt_of_cell? W _ q1
  have hbq2 := World.block_lt_of_cell? W _ q2
  simp only [Int.reduceToNat, Nat.reduceMul, Int.toNat_zero, Nat.zero_mul, Int.toNat_one, Nat.one_mul, addr_zero] at q0 q1 q2 hbq hbq1 hbq2
  have hi2 : (0 : Int) < (top.x.f2.length : Int) := by omega
  have hi3 : 0 < top.x.f2.length := by omega
  generalize rd_T84 top.x.f2 0 = kx at *
  have hb1 : Below W.heap.size W ((W.alloc (.cells #[.int .i64 5, .string top.x.f1, .slice (some ad) top.x.f2.length c, .slice A0 0 c0, .pointer p] 213)).drew) := ((Below.refl _ _).alloc (Nat.le_refl _) _).drew
  have h7 : (r.length : Int) ≤ 4000 := by rw [hfr] at hl; simp at hl; omega
  have h5 : (0 : Int) ≤ (r.length : Int) := by omega
  have h6 : (r.length : Int) < (r.length : Int) + 1 := by omega
  have HD := Aside0.mk (fun (w2 : World) (h2 : Below (((W.alloc (.cells #[.int .i64 5, .string top.x.f1, .slice (some ad) top.x.f2.length c, .slice A0 0 c0, .pointer p] 213)).drew)).heap.size ((W.alloc (.cells #[.int .i64 5, .string top.x.f1, .slice (some ad) top.x.f2.length c, .slice A0 0 c0, .pointer p] 213)).drew) w2) => begin_calls w0 w2 M st kx A2 c2 p top.sees ((hM.below hb1).below h2) hC0 hl2 ((hch.below hb1).below h2) hT0 hT1 hl)
  clear hKW hC0 hl2 hC2 hi hT0 hT1
  clear hn
  clear hM hrow hch hK hB hc hk hl hv hb1 hx1 hx2 hx3 hx4
  go_enter Tryz.func82, Tryz.ntmps82
  go_wp2
  go_region
  go_wp2
  go_region
  go_wp2_with fail
  go_region_with (first | (go_at_call 81; refine (HD.out _ (by first | exact Below.refl _ _ | exact (Below.refl _ _).drew | exact (Below.refl _ _).drew.drew | exact below_drewN (Below.refl _ _) _)).mono ?_; rintro e w' ⟨rfl, h, hkp⟩))
  all_goals go_wp2
  all_goals go_ret2
  all_goals exact ⟨rfl, h⟩
end Go.Proofs.YtijgifinhbbmaaaGreatDoor
