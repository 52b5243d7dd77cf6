import Derived.Test.YtijgifinhbbmaaaGreatDoorEY
import Derived.Deep.RegionWith
import Derived.Deep.RegionHeld3
set_option linter.unusedVariables false
set_option linter.unusedSimpArgs false
namespace Go.Proofs.YtijgifinhbbmaaaGreatDoor
open Go.RowKit Go.Proofs.YtijgifinhbbmaaaGreatDoorW.PrintWords Go.Proofs.YtijgifinhbbmaaaGreatDoor.Q
set_option maxRecDepth 100000 in
set_option maxHeartbeats 2000000 in
theorem turn_if2ne (w0 W : World) (M : Nat) (st : St) (top : Fr) (r : List Fr) (hM : IsM w0 W M st) (hfr : st.frs = top :: r) (hk : top.x.f0 = 4) (hl : st.frs.length ≤ 4000) (hv : ∀ fr ∈ st.frs, fr.vals.length ≤ 4000000000) (hn : top.vals.length = 2) (hi : 3 < top.x.f2.length) (hT0 : 0 ≤ st.turns) (hT1 : st.turns ≤ 1000) (s0 : ByteArray) (s1 : ByteArray) (hs0 : top.vals[0]? = some s0) (hs1 : top.vals[1]? = some s1) (he : s0.toList ≠ s1.toList) :
    Calls Tryz.prog 82 #[.pointer (some ⟨M, 0, none⟩)] W fun e W' => e = .returned (.tuple #[.string ⟨#[]⟩, .bool false]) ∧ IsM w0 W' M (beginS st (rd_T84 top.x.f2 3) top.sees) := by
  obtain ⟨g, cap, c, A, p, u, m0, m2, mf, t0, t1, t2, t3, t4, hlt, hc, hK, hrow, hch, hB, hx1, hx2, hx3, hx4⟩ := hM.top hfr
  have hlg := World.block_lt_of_cell? W _ t0
  rw [hk] at t0
  obtain ⟨vb, c0, rfl, hvc, _, hvals⟩ := own_some (show W.ownsRow w0.heap.size 9 1 u (1 + 1) (pw_strs top.vals) by have h := hrow; rw [hn] at h; exact h)
  simp only [Nat.reduceAdd, Nat.zero_add] at t3 hvc
  have hKW := Kd.C_below hK hB
  obtain ⟨ad, A2, c2, rfl, q0, q1, q2, hl2, hC2⟩ := at_T84 hKW 3 (by omega) (by omega)
  have hC0 : kEx.C w0 A2 (rd_T84 top.x.f2 3).f2.length (rd_T84 top.x.f2 3).f2 := kid_came hK hB 3 (by omega) (by omega) rfl q2
  have hbq := World.block_lt_of_cell? W _ q0
  have hbq1 := World.block_lt_of_cell? W _ q1
  have hbq2 := World.block_lt_of_cell? W _ q2
  simp only [Int.reduceToNat, Nat.reduceMul, Int.toNat_zero, Nat.zero_mul, Int.toNat_one, Nat.one_mul, addr_zero] at q0 q1 q2 hbq hbq1 hbq2
  rw [add_lit ad 9 (by decide)] at q0 q1 q2 hbq hbq1 hbq2
  have hi2 : (3 : Int) < (top.x.f2.length : Int) := by omega
  have hi3 : 3 < top.x.f2.length := by omega
  generalize rd_T84 top.x.f2 3 = kx at *
  have hb1 : Below W.heap.size W ((W.alloc (.cells #[.int .i64 4, .string top.x.f1, .slice (some ad) top.x.f2.length c, .slice (some ⟨vb, 0, none⟩) 2 c0, .pointer p] 213)).drew) := ((Below.refl _ _).alloc (Nat.le_refl _) _).drew
  have h7 : (r.length : Int) ≤ 4000 := by rw [hfr] at hl; simp at hl; omega
  have h5 : (0 : Int) ≤ (r.length : Int) := by omega
  have h6 : (r.length : Int) < (r.length : Int) + 1 := by omega
  have v0 := (hvals 0 (.string s0) (by simp [pw_strs, hs0])).1
  have v1 := (hvals 1 (.string s1) (by simp [pw_strs, hs1])).1
  have hbv0 := World.block_lt_of_cell? W _ v0
  have hbv1 := World.block_lt_of_cell? W _ v1
  have he1 : (s0.toList == s1.toList) = false := by simpa using he
  have he2 : (s0.toList != s1.toList) = true := by simpa using he
  clear he
  have HD := Aside0.mk (fun (w2 : World) (h2 : Below (((W.alloc (.cells #[.int .i64 4, .string top.x.f1, .slice (some ad) top.x.f2.length c, .slice (some ⟨vb, 0, none⟩) 2 c0, .pointer p] 213)).drew)).heap.size ((W.alloc (.cells #[.int .i64 4, .string top.x.f1, .slice (some ad) top.x.f2.length c, .slice (some ⟨vb, 0, none⟩) 2 c0, .pointer p] 213)).drew) w2) => begin_calls w0 w2 M st kx A2 c2 p top.sees ((hM.below hb1).below h2) hC0 hl2 ((hch.below hb1).below h2) hT0 hT1 hl)
  clear hKW hC0 hl2 hC2 hi hT0 hT1 hs0 hs1
  clear hvc hvals
  clear hn
  clear hM hrow hch hK hB hc hk hl hv hb1 hx1 hx2 hx3 hx4
  go_enter Tryz.func82, Tryz.ntmps82
  go_wp2
  go_region
  go_wp2
  go_region
  go_wp2_with fail
  go_region_with (first | (go_at_call 81; refine (HD.out _ (by first | exact Below.refl _ _ | exact (Below.refl _ _).drew | exact (Below.refl _ _).drew.drew | exact below_drewN (Below.refl _ _) _)).mono ?_; rintro e w' ⟨rfl, h, hkp⟩))
  all_goals go_wp2
  all_goals go_ret2
  all_goals exact ⟨rfl, h⟩
set_option maxRecDepth 100000 in
set_option maxHeartbeats 2000000 in
theorem turn_catk (w0 W : World) (M : Nat) (st : St) (top : Fr) (r : List Fr) (hM : IsM w0 W M st) (hfr : st.frs = top :: r) (hk : top.x.f0 = 3) (hl : st.frs.length ≤ 4000) (hv : ∀ fr ∈ st.frs, fr.vals.length ≤ 4000000000) (hi : top.vals.length < top.x.f2.length) (hT0 : 0 ≤ st.turns) (hT1 : st.turns ≤ 1000) (hn : top.vals.length ≠ top.x.f2.length) :
    Calls Tryz.prog 82 #[.pointer (some ⟨M, 0, none⟩)] W fun e W' => e = .returned (.tuple #[.string ⟨#[]⟩, .bool false]) ∧ IsM w0 W' M (beginS st (rd_T84 top.x.f2 (top.vals.length : Int)) top.sees) := by
  obtain ⟨g, cap, c, A, p, u, m0, m2, mf, t0, t1, t2, t3, t4, hlt, hc, hK, hrow, hch, hB, hx1, hx2, hx3, hx4⟩ := hM.top hfr
  have hlg := World.block_lt_of_cell? W _ t0
  rw [hk] at t0
  obtain ⟨A0, c0, rfl⟩ := own_slice hrow
  have hKW := Kd.C_below hK hB
  obtain ⟨ad, A2, c2, rfl, q0, q1, q2, hl2, hC2⟩ := at_T84 hKW (top.vals.length : Int) (by omega) (by omega)
  have hC0 : kEx.C w0 A2 (rd_T84 top.x.f2 (top.vals.length : Int)).f2.length (rd_T84 top.x.f2 (top.vals.length : Int)).f2 := kid_came hK hB (top.vals.length : Int) (by omega) (by omega) rfl q2
  have hbq := World.block_lt_of_cell? W _ q0
  have hbq1 := World.block_lt_of_cell? W _ q1
  have hbq2 := World.block_lt_of_cell? W _ q2
  simp only [Int.toNat_natCast] at q0 q1 q2 hbq hbq1 hbq2
  have hi0 : (0 : Int) ≤ (top.vals.length : Int) := by omega
  have hi2 : (top.vals.length : Int) < (top.x.f2.length : Int) := by omega
  have hi3 : top.vals.length < top.x.f2.length := by omega
  generalize rd_T84 top.x.f2 (top.vals.length : Int) = kx at *
  have hb1 : Below W.heap.size W ((W.alloc (.cells #[.int .i64 3, .string top.x.f1, .slice (some ad) top.x.f2.length c, .slice A0 top.vals.length c0, .pointer p] 213)).drew) := ((Below.refl _ _).alloc (Nat.le_refl _) _).drew
  have h7 : (r.length : Int) ≤ 4000 := by rw [hfr] at hl; simp at hl; omega
  have h5 : (0 : Int) ≤ (r.length : Int) := by omega
  have h6 : (r.length : Int) < (r.length : Int) + 1 := by omega
  have hn1 : ((top.vals.length : Int) == (top.x.f2.length : Int)) = false := by simp; omega
  clear hn
  have HD := Aside0.mk (fun (w2 : World) (h2 : Below (((W.alloc (.cells #[.int .i64 3, .string top.x.f1, .slice (some ad) top.x.f2.length c, .slice A0 top.vals.length c0, .pointer p] 213)).drew)).heap.size ((W.alloc (.cells #[.int .i64 3, .string top.x.f1, .slice (some ad) top.x.f2.length c, .slice A0 top.vals.length c0, .pointer p] 213)).drew) w2) => begin_calls w0 w2 M st kx A2 c2 p top.sees ((hM.below hb1).below h2) hC0 hl2 ((hch.below hb1).below h2) hT0 hT1 hl)
  clear hKW hC0 hl2 hC2 hi hT0 hT1
  clear hM hrow hch hK hB hc hk hl hv hb1 hx1 hx2 hx3 hx4
  go_enter Tryz.func82, Tryz.ntmps82
  go_wp2
  go_region
  go_wp2
  go_region
  go_wp2_with fail
  go_region_with (first | (go_at_call 81; refine (HD.out _ (by first | exact Below.refl _ _ | exact (Below.refl _ _).drew | exact (Below.refl _ _).drew.drew | exact below_drewN (Below.refl _ _) _)).mono ?_; rintro e w' ⟨rfl, h, hkp⟩))
  all_goals go_wp2
  all_goals go_ret2
  all_goals exact ⟨rfl, h⟩
end Go.Proofs.YtijgifinhbbmaaaGreatDoor
set_option linter.unusedVariables false
set_option linter.unusedSimpArgs false
namespace Go.Proofs.YtijgifinhbbmaaaGreatDoor
open Go.RowKit Go.Proofs.YtijgifinhbbmaaaGreatDoorW.PrintWords Go.Proofs.YtijgifinhbbmaaaGreatDoor.Q
set_option maxRecDepth 100000 in
set_option maxHeartbeats 2000000 in
theorem turn_let1 (w0 W : World) (M : Nat) (st : St) (top : Fr) (r : List Fr) (hM : IsM w0 W M st) (hfr : st.frs = top :: r) (hk : top.x.f0 = 5) (hl : st.frs.length ≤ 4000) (hv : ∀ fr ∈ st.frs, fr.vals.length ≤ 4000000000) (hn : top.vals.length = 1) (hi : 1 < top.x.f2.length) (hT0 : 0 ≤ st.turns) (hT1 : st.turns ≤ 1000) (s0 : ByteArray) (hs0 : top.vals[0]? = some s0) :
    Calls Tryz.prog 82 #[.pointer (some ⟨M, 0, none⟩)] W fun e W' => e = .returned (.tuple #[.string ⟨#[]⟩, .bool false]) ∧ IsM w0 W' M (beginS st (rd_T84 top.x.f2 1) ((top.x.f1, s0) :: top.sees)) := by
  obtain ⟨g, cap, c, A, p, u, m0, m2, mf, t0, t1, t2, t3, t4, hlt, hc, hK, hrow, hch, hB, hx1, hx2, hx3, hx4⟩ := hM.top hfr
  have hlg := World.block_lt_of_cell? W _ t0
  rw [hk] at t0
  obtain ⟨vb, c0, rfl, hvc, _, hvals⟩ := own_some (show W.ownsRow w0.heap.size 9 1 u (0 + 1) (pw_strs top.vals) by have h := hrow; rw [hn] at h; exact h)
  simp only [Nat.reduceAdd, Nat.zero_add] at t3 hvc
  have hKW := Kd.C_below hK hB
  obtain ⟨ad, A2, c2, rfl, q0, q1, q2, hl2, hC2⟩ := at_T84 hKW 1 (by omega) (by omega)
  have hC0 : kEx.C w0 A2 (rd_T84 top.x.f2 1).f2.length (rd_T84 top.x.f2 1).f2 := kid_came hK hB 1 (by omega) (by omega) rfl q2
  have hbq := World.block_lt_of_cell? W _ q0
  have hbq1 := World.block_lt_of_cell? W _ q1
  have hbq2 := World.block_lt_of_cell? W _ q2
  simp only [Int.reduceToNat, Nat.reduceMul, Int.toNat_zero, Nat.zero_mul, Int.toNat_one, Nat.one_mul, addr_zero] at q0 q1 q2 hbq hbq1 hbq2
  rw [add_lit ad 3 (by decide)] at q0 q1 q2 hbq hbq1 hbq2
  have hi2 : (1 : Int) < (top.x.f2.length : Int) := by omega
  have hi3 : 1 < top.x.f2.length := by omega
  generalize rd_T84 top.x.f2 1 = kx at *
  have hb1 : Below W.heap.size W ((W.alloc (.cells #[.int .i64 5, .string top.x.f1, .slice (some ad) top.x.f2.length c, .slice (some ⟨vb, 0, none⟩) 1 c0, .pointer p] 213)).drew) := ((Below.refl _ _).alloc (Nat.le_refl _) _).drew
  have h7 : (r.length : Int) ≤ 4000 := by rw [hfr] at hl; simp at hl; omega
  have h5 : (0 : Int) ≤ (r.length : Int) := by omega
  have h6 : (r.length : Int) < (r.length : Int) + 1 := by omega
  have v0 := (hvals 0 (.string s0) (by simp [pw_strs, hs0])).1
  have hbv0 := World.block_lt_of_cell? W _ v0
  have hadb : ad.block < w0.heap.size := kid_block hK 1 (by omega) (by omega)
  have hlg2 : g < W.heap.size := hlg
  have HN1 : Aside0 (¬ (W.heap.size = M ∨ W.heap.size = g)) := ⟨by omega⟩
  have HN2 : Aside0 (¬ (ad.block = M ∨ ad.block = g)) := ⟨by omega⟩
  have HN3 : Aside0 (¬ (vb = M ∨ vb = g)) := ⟨fun h => h.elim (fun h => hx3 (by simp [Value.ownBlock, h])) (fun h => hx4 (by simp [Value.ownBlock, h]))⟩
  clear hadb hlg2
  have HD := Aside0.mk (fun (w2 : World) (B : Nat) (h2 : Below (((W.alloc (.cells #[.int .i64 5, .string top.x.f1, .slice (some ad) top.x.f2.length c, .slice (some ⟨vb, 0, none⟩) 1 c0, .pointer p] 213)).drew)).heap.size ((W.alloc (.cells #[.int .i64 5, .string top.x.f1, .slice (some ad) top.x.f2.length c, .slice (some ⟨vb, 0, none⟩) 1 c0, .pointer p] 213)).drew) w2) (hB2 : w2.heap[B]? = some (.cells #[.string top.x.f1, .string s0, .pointer p] 216 (0, 0))) => begin_kept (g := g) ((h2.cell (p := ⟨M, 0, none⟩) (by simp; omega)).trans ((hb1.cell (p := ⟨M, 0, none⟩) hlt).trans m0)) (begin_calls w0 w2 M st kx A2 c2 (some ⟨B, 0, none⟩) ((top.x.f1, s0) :: top.sees) ((hM.below hb1).below h2) hC0 hl2 ⟨B, p, rfl, hB2, (hch.below hb1).below h2⟩ hT0 hT1 hl))
  clear hKW hC0 hl2 hC2 hi hT0 hT1 hs0
  clear hvc hvals
  clear hn
  clear hM hrow hch hK hB hc hk hl hv hb1 hx1 hx2 hx3 hx4
  go_enter Tryz.func82, Tryz.ntmps82
  go_wp2
  go_region
  go_wp2
  go_region
  go_wp2_with fail
  go_region_held3 (fun w' => w'.cell? ⟨W.heap.size, 1, none⟩ = some (.string top.x.f1) ∧ w'.cell? ⟨W.heap.size, 2, none⟩ = some (.slice (some ad) top.x.f2.length c) ∧ w'.cell? ⟨W.heap.size, 3, none⟩ = some (.slice (some ⟨vb, 0, none⟩) 1 c0) ∧ w'.cell? ⟨W.heap.size, 4, none⟩ = some (.pointer p) ∧ w'.cell? ⟨ad.block, ad.off + 3, none⟩ = some (.int .i64 kx.f0) ∧ w'.cell? ⟨ad.block, ad.off + 3 + 1, none⟩ = some (.string kx.f1) ∧ w'.cell? ⟨ad.block, ad.off + 3 + 2, none⟩ = some (.slice A2 kx.f2.length c2) ∧ w'.cell? ⟨vb, 0, none⟩ = some (.string s0)) (first | go_keep | (go_split_ands; refine ⟨?_, ?_, ?_, ?_, ?_, ?_, ?_, ?_⟩ <;> (refine cell_kept (by assumption) hkp ?_; first | exact HN1.out | exact HN2.out | exact HN3.out))) ((go_at_call 81; refine (HD.out _ _ (by first | exact ((Below.refl _ _).alloc (Nat.le_refl _) _).drew | exact (((Below.refl _ _).alloc (Nat.le_refl _) _).drew).drew | exact below_let _ _ _) (by have h := heap_alloc_new (W.alloc (.cells #[.int .i64 5, .string top.x.f1, .slice (some ad) top.x.f2.length c, .slice (some ⟨vb, 0, none⟩) 1 c0, .pointer p] 213)) (.cells #[.string top.x.f1, .string s0, .pointer p] 216); rw [World.size_alloc] at h; exact h)).mono ?_; rintro e w' ⟨rfl, h, hkp⟩))
  all_goals go_wp2
  all_goals go_ret2
  all_goals exact ⟨rfl, h⟩
end Go.Proofs.YtijgifinhbbmaaaGreatDoor
set_option linter.unusedVariables false
set_option linter.unusedSimpArgs false
namespace Go.Proofs.YtijgifinhbbmaaaGreatDoor
open Go.RowKit Go.Proofs.YtijgifinhbbmaaaGreatDoorW.PrintWords Go.Proofs.YtijgifinhbbmaaaGreatDoor.Q
def kidAt (x : Ex) (i : Nat) : Ex := rd_T84 x.f2 i
def joinV (vs : List ByteArray) : ByteArray := ⟨(Lib.join (vs.map (·.data.toList)) []).toArray⟩
/-- One turn of the machine, where it doesn't panic. -/
def turnS (st : St) : Option (St × ByteArray × Bool) :=
  match st.frs with
  | [] => none
  | top :: _ =>
    let n := top.vals.length
    let push (i : Nat) (sees : List Nm) : Option (St × ByteArray × Bool) := if i < top.x.f2.length then some (beginS st (kidAt top.x i) sees, ⟨#[]⟩, false) else none
    if top.x.f0 = 1 then some (doneS st top.x.f1)
    else if top.x.f0 = 2 then (if (look top.sees top.x.f1).2 = true then some (doneS st (look top.sees top.x.f1).1) else some ({ st with fault := 51 }, ⟨#[]⟩, false))
    else if top.x.f0 = 3 then (if n = top.x.f2.length then (if 0 < n then some (doneS st (joinV top.vals)) else none) else push n top.sees)
    else if top.x.f0 = 4 then
      (match top.vals with
      | [] => push 0 top.sees
      | [_] => push 1 top.sees
      | [a, b] => if a.toList = b.toList then push 2 top.sees else push 3 top.sees
      | [_, _, c] => some (doneS st c)
      | _ => none)
    else if top.x.f0 = 5 then
      (match top.vals with
      | [] => push 0 top.sees
      | [a] => push 1 ((top.x.f1, a) :: top.sees)
      | [_, b] => some (doneS st b)
      | _ => none)
    else none
/-- What holds of the machine's state between two turns, as far as sizes go. -/
structure Sized (st : St) : Prop where
  t0 : 0 ≤ st.turns
  t1 : st.turns ≤ 1000
  len : st.frs.length ≤ 4000
  vals : ∀ fr ∈ st.frs, fr.vals.length ≤ 4000000000 ∧ (∀ v ∈ fr.vals, v.size ≤ 256) ∧ fr.x.f1.size ≤ 140737488355328 ∧ (∀ x ∈ fr.sees, x.2.size ≤ 256)
theorem look_size {l : List Nm} {n : ByteArray} (h : ∀ x ∈ l, x.2.size ≤ 256) : (look l n).1.size ≤ 256 := by
  induction l with
  | nil => simp [look, ByteArray.size]
  | cons x r ih =>
    unfold look
    split
    · exact h x (List.mem_cons_self ..)
    · exact ih fun y hy => h y (List.mem_cons_of_mem _ hy)
theorem join_flat (vs : List (List UInt8)) : Lib.join vs [] = vs.flatten := by
  cases vs with
  | nil => rfl
  | cons x r => rw [Lib.join_cons]; simp [Lib.joinTail]
theorem flat_len (vs : List ByteArray) (h : ∀ v ∈ vs, v.size ≤ 256) : ((vs.map (·.data.toList)).flatten).length ≤ vs.length * 256 := by
  induction vs with
  | nil => simp
  | cons v r ih =>
    have h1 := h v (List.mem_cons_self ..)
    have h2 := ih fun u hu => h u (List.mem_cons_of_mem _ hu)
    simp only [List.map_cons, List.flatten_cons, List.length_append, List.length_cons, ByteArray.size, Array.length_toList] at *
    omega
theorem turn_calls (w0 W : World) (M : Nat) (st st' : St) (s : ByteArray) (all : Bool) (hM : IsM w0 W M st) (hS : Sized st) (h : turnS st = some (st', s, all)) :
    Calls Tryz.prog 82 #[.pointer (some ⟨M, 0, none⟩)] W fun e W' => e = .returned (.tuple #[.string s, .bool all]) ∧ IsM w0 W' M st' := by
  cases hfr : st.frs with
  | nil => unfold turnS at h; rw [hfr] at h; cases h
  | cons top r =>
    have hv : ∀ fr ∈ st.frs, fr.vals.length ≤ 4000000000 := fun fr hf => (hS.vals fr hf).1
    have htop : top ∈ st.frs := by rw [hfr]; exact List.mem_cons_self ..
    obtain ⟨hv1, hv2, hv3, hv4⟩ := hS.vals top htop
    unfold turnS at h
    rw [hfr] at h
    simp only at h
    by_cases k1 : top.x.f0 = 1
    · rw [if_pos k1] at h
      obtain ⟨rfl, h2⟩ := Prod.mk.inj (Option.some.inj h)
      obtain ⟨rfl, rfl⟩ := Prod.mk.inj h2
      exact turn_text w0 W M st top r hM hfr k1 hS.len hv hv3
    rw [if_neg k1] at h
    by_cases k2 : top.x.f0 = 2
    · rw [if_pos k2] at h
      by_cases hl : (look top.sees top.x.f1).2 = true
      · rw [if_pos hl] at h
        obtain ⟨rfl, h2⟩ := Prod.mk.inj (Option.some.inj h)
        obtain ⟨rfl, rfl⟩ := Prod.mk.inj h2
        exact turn_name w0 W M st top r hM hfr k2 hS.len hv (look top.sees top.x.f1).1 (by rw [← hl]) (Nat.le_trans (look_size hv4) (by omega))
      · rw [if_neg hl] at h
        simp only [Option.some.injEq, Prod.mk.injEq] at h
        obtain ⟨rfl, rfl, rfl⟩ := h
        have := turn_noname w0 W M st top r hM hfr k2 hS.len hv (look top.sees top.x.f1).1 (by rw [← Bool.eq_false_iff.2 hl])
        rwa [hfr] at this
    rw [if_neg k2] at h
    by_cases k3 : top.x.f0 = 3
    · rw [if_pos k3] at h
      by_cases hn : top.vals.length = top.x.f2.length
      · rw [if_pos hn] at h
        by_cases hn0 : 0 < top.vals.length
        · rw [if_pos hn0] at h
          obtain ⟨rfl, h2⟩ := Prod.mk.inj (Option.some.inj h)
          obtain ⟨rfl, rfl⟩ := Prod.mk.inj h2
          exact turn_cat w0 W M st top r hM hfr k3 hS.len hv hn hn0 (by rw [join_flat]; have := flat_len top.vals hv2; omega)
        · rw [if_neg hn0] at h; cases h
      · rw [if_neg hn] at h
        by_cases hi : top.vals.length < top.x.f2.length
        · rw [if_pos hi] at h
          simp only [Option.some.injEq, Prod.mk.injEq] at h
          obtain ⟨rfl, rfl, rfl⟩ := h
          exact turn_catk w0 W M st top r hM hfr k3 hS.len hv hi hS.t0 hS.t1 hn
        · rw [if_neg hi] at h; cases h
    rw [if_neg k3] at h
    by_cases k4 : top.x.f0 = 4
    · rw [if_pos k4] at h
      match hvs : top.vals, h with
      | [], h =>
        by_cases hi : 0 < top.x.f2.length
        · simp only [if_pos hi, Option.some.injEq, Prod.mk.injEq] at h
          obtain ⟨rfl, rfl, rfl⟩ := h
          exact turn_if0 w0 W M st top r hM hfr k4 hS.len hv (by rw [hvs]; rfl) hi hS.t0 hS.t1
        · simp only [if_neg hi] at h; cases h
      | [a], h =>
        by_cases hi : 1 < top.x.f2.length
        · simp only [if_pos hi, Option.some.injEq, Prod.mk.injEq] at h
          obtain ⟨rfl, rfl, rfl⟩ := h
          exact turn_if1 w0 W M st top r hM hfr k4 hS.len hv (by rw [hvs]; rfl) hi hS.t0 hS.t1
        · simp only [if_neg hi] at h; cases h
      | [a, b], h =>
        by_cases he : a.toList = b.toList
        · simp only [if_pos he] at h
          by_cases hi : 2 < top.x.f2.length
          · simp only [if_pos hi, Option.some.injEq, Prod.mk.injEq] at h
            obtain ⟨rfl, rfl, rfl⟩ := h
            exact turn_if2eq w0 W M st top r hM hfr k4 hS.len hv (by rw [hvs]; rfl) hi hS.t0 hS.t1 a b (by rw [hvs]; rfl) (by rw [hvs]; rfl) he
          · simp only [if_neg hi] at h; cases h
        · simp only [if_neg he] at h
          by_cases hi : 3 < top.x.f2.length
          · simp only [if_pos hi, Option.some.injEq, Prod.mk.injEq] at h
            obtain ⟨rfl, rfl, rfl⟩ := h
            exact turn_if2ne w0 W M st top r hM hfr k4 hS.len hv (by rw [hvs]; rfl) hi hS.t0 hS.t1 a b (by rw [hvs]; rfl) (by rw [hvs]; rfl) he
          · simp only [if_neg hi] at h; cases h
      | [a, b, c], h =>
        obtain ⟨rfl, h2⟩ := Prod.mk.inj (Option.some.inj h)
        obtain ⟨rfl, rfl⟩ := Prod.mk.inj h2
        exact turn_if3 w0 W M st top r hM hfr k4 hS.len hv (by rw [hvs]; rfl) c (by rw [hvs]; rfl) (Nat.le_trans (hv2 c (by rw [hvs]; simp)) (by omega))
      | a :: b :: c :: d :: l, h => cases h
    rw [if_neg k4] at h
    by_cases k5 : top.x.f0 = 5
    · rw [if_pos k5] at h
      match hvs : top.vals, h with
      | [], h =>
        by_cases hi : 0 < top.x.f2.length
        · simp only [if_pos hi, Option.some.injEq, Prod.mk.injEq] at h
          obtain ⟨rfl, rfl, rfl⟩ := h
          exact turn_let0 w0 W M st top r hM hfr k5 hS.len hv (by rw [hvs]; rfl) hi hS.t0 hS.t1
        · simp only [if_neg hi] at h; cases h
      | [a], h =>
        by_cases hi : 1 < top.x.f2.length
        · simp only [if_pos hi, Option.some.injEq, Prod.mk.injEq] at h
          obtain ⟨rfl, rfl, rfl⟩ := h
          exact turn_let1 w0 W M st top r hM hfr k5 hS.len hv (by rw [hvs]; rfl) hi hS.t0 hS.t1 a (by rw [hvs]; rfl)
        · simp only [if_neg hi] at h; cases h
      | [a, b], h =>
        obtain ⟨rfl, h2⟩ := Prod.mk.inj (Option.some.inj h)
        obtain ⟨rfl, rfl⟩ := Prod.mk.inj h2
        exact turn_let2 w0 W M st top r hM hfr k5 hS.len hv (by rw [hvs]; rfl) b (by rw [hvs]; rfl) (Nat.le_trans (hv2 b (by rw [hvs]; simp)) (by omega))
      | a :: b :: c :: l, h => cases h
    rw [if_neg k5] at h; cases h
end Go.Proofs.YtijgifinhbbmaaaGreatDoor
/- What an expression means, and that the evaluator's turns come to it. No program in sight. -/
set_option linter.unusedVariables false
set_option linter.unusedSimpArgs false
namespace Go.Proofs.YtijgifinhbbmaaaGreatDoor
open Go.RowKit Go.Proofs.YtijgifinhbbmaaaGreatDoorW.PrintWords Go.Proofs.YtijgifinhbbmaaaGreatDoor.Q
inductive Res where
  | fail (e t : Int)
  | ok (s : ByteArray) (t : Int)
def fin (s : ByteArray) (t : Int) : Res := if 256 < s.size then .fail 43 t else .ok s t
mutual
def mean : Ex → List Nm → Int → Res
  | ⟨k, s, kids⟩, sees, t =>
    if t = 1000 then .fail 52 t
    else if k = 1 then fin s (t + 1)
    else if k = 2 then (if (look sees s).2 = true then fin (look sees s).1 (t + 1) else .fail 51 (t + 1))
    else if k = 3 then meanCat kids sees (t + 1) []
    else if k = 4 then meanIf kids sees (t + 1)
    else meanLet kids s sees (t + 1)
def meanCat : List Ex → List Nm → Int → List ByteArray → Res
  | [], _, t, vs => fin (joinV vs) t
  | x :: r, sees, t, vs => match mean x sees t with
    | .fail e t => .fail e t
    | .ok s t => meanCat r sees t (vs ++ [s])
def meanIf : List Ex → List Nm → Int → Res
  | [a, b, c, d], sees, t => match mean a sees t with
    | .fail e t => .fail e t
    | .ok s1 t => match mean b sees t with
      | .fail e t => .fail e t
      | .ok s2 t => if s1.toList = s2.toList then mean c sees t else mean d sees t
  | _, _, t => .fail 0 t
def meanLet : List Ex → ByteArray → List Nm → Int → Res
  | [a, b], n, sees, t => match mean a sees t with
    | .fail e t => .fail e t
    | .ok s1 t => mean b ((n, s1) :: sees) t
  | _, _, _, t => .fail 0 t
end
/-- The loop of Eval. -/
def evL : Nat → St → Option (ByteArray × Int × Int)
  | 0, _ => none
  | k + 1, st => if st.fault = 0 then (turnS st).bind (fun t => if t.2.2 = true then some (t.2.1, t.1.turns, 0) else evL k t.1) else some (⟨#[]⟩, st.turns, st.fault)
def cont (k : Nat) : List Fr → Int → ByteArray → Option (ByteArray × Int × Int)
  | [], t, s => some (s, t, 0)
  | fr :: r, t, s => evL k ⟨{ fr with vals := fr.vals ++ [s] } :: r, t, 0⟩
/-- From this state on the loop comes to R, whatever stands below. -/
def Fin (st : St) (frs : List Fr) : Res → Prop
  | .fail e t => ∃ n, ∀ k, evL (n + k + 1) st = some (⟨#[]⟩, t, e)
  | .ok s t => ∃ n, ∀ k, evL (n + k + 1) st = cont k frs t s
theorem evL_turn {k : Nat} {st st' : St} {s : ByteArray} {all : Bool} (h0 : st.fault = 0) (h : turnS st = some (st', s, all)) : evL (k + 1) st = if all = true then some (s, st'.turns, 0) else evL k st' := by
  rw [evL, if_pos h0, h]; rfl
theorem evL_fault {k : Nat} {st : St} (h0 : st.fault ≠ 0) : evL (k + 1) st = some (⟨#[]⟩, st.turns, st.fault) := by
  rw [evL, if_neg h0]
def Res.andThen (R : Res) (g : ByteArray → Int → Res) : Res := match R with
  | .fail e t => .fail e t
  | .ok s t => g s t
/-- R lies between t and 1000; what it says is short. -/
def Fits (t : Int) : Res → Prop
  | .fail e u => t ≤ u ∧ (t ≤ 1000 → u ≤ 1000) ∧ 0 < e
  | .ok s u => t < u ∧ (t ≤ 1000 → u ≤ 1000) ∧ s.size ≤ 256
theorem fits_fin {s : ByteArray} {t : Int} (h : t ≠ 1000) : Fits t (fin s (t + 1)) := by
  unfold fin
  split
  · exact ⟨by omega, by omega, by decide⟩
  · exact ⟨by omega, by omega, by omega⟩
theorem Fits.andThen {t : Int} {R : Res} {g : ByteArray → Int → Res} (h : Fits t R) (hg : ∀ s u, R = .ok s u → Fits u (g s u)) : Fits t (R.andThen g) := by
  cases R with
  | fail e u => exact h
  | ok s u =>
    have h2 := hg s u rfl
    obtain ⟨h3, h4, h5⟩ := h
    show Fits t (g s u)
    cases hgs : g s u with
    | fail e v => rw [hgs] at h2; exact ⟨by have := h2.1; omega, fun h => h2.2.1 (h4 h), h2.2.2⟩
    | ok s2 v => rw [hgs] at h2; exact ⟨by have := h2.1; omega, fun h => h2.2.1 (h4 h), h2.2.2⟩
theorem fin_done {f : Fr} {frs : List Fr} {t : Int} {s : ByteArray} (h : turnS ⟨f :: frs, t, 0⟩ = some (doneS ⟨f :: frs, t, 0⟩ s)) : Fin ⟨f :: frs, t, 0⟩ frs (fin s t) := by
  by_cases hs : 256 < s.size
  · have e1 : doneS ⟨f :: frs, t, 0⟩ s = (⟨f :: frs, t, 43⟩, ⟨#[]⟩, false) := by unfold doneS; rw [if_pos hs]
    rw [e1] at h
    have e2 : fin s t = .fail 43 t := by unfold fin; rw [if_pos hs]
    rw [e2]
    refine ⟨1, fun k => ?_⟩
    rw [evL_turn rfl h, if_neg (by decide), show 1 + k = k + 1 from by omega, evL_fault (show (43 : Int) ≠ 0 by decide)]
  · have e2 : fin s t = .ok s t := by unfold fin; rw [if_neg hs]
    rw [e2]
    refine ⟨0, fun k => ?_⟩
    rw [show 0 + k + 1 = k + 1 from by omega]
    cases frs with
    | nil =>
      have e1 : doneS ⟨[f], t, 0⟩ s = (⟨[], t, 0⟩, s, true) := by unfold doneS; rw [if_neg hs]
      rw [e1] at h
      rw [evL_turn rfl h, if_pos rfl]; rfl
    | cons fr r =>
      have e1 : doneS ⟨f :: fr :: r, t, 0⟩ s = (⟨{ fr with vals := fr.vals ++ [s] } :: r, t, 0⟩, ⟨#[]⟩, false) := by unfold doneS; rw [if_neg hs]
      rw [e1] at h
      rw [evL_turn rfl h, if_neg (by decide)]; rfl
/-- A kid is begun: what it comes to, and then the rest. -/
theorem fin_push {f : Fr} {frs : List Fr} {t : Int} {x : Ex} {sees : List Nm} {R : Res} {g : ByteArray → Int → Res}
    (h : turnS ⟨f :: frs, t, 0⟩ = some (beginS ⟨f :: frs, t, 0⟩ x sees, ⟨#[]⟩, false)) (hk : Fin (beginS ⟨f :: frs, t, 0⟩ x sees) (f :: frs) R)
    (hg : ∀ s t', R = .ok s t' → Fin ⟨{ f with vals := f.vals ++ [s] } :: frs, t', 0⟩ frs (g s t')) :
    Fin ⟨f :: frs, t, 0⟩ frs (R.andThen g) := by
  cases R with
  | fail e t' =>
    obtain ⟨n, hn⟩ := hk
    exact ⟨n + 1, fun k => by rw [evL_turn rfl h, if_neg (by decide), show n + 1 + k = n + k + 1 from by omega, hn]⟩
  | ok s t' =>
    obtain ⟨n, hn⟩ := hk
    have h2 := hg s t' rfl
    show Fin _ _ (g s t')
    cases hgs : g s t' with
    | fail e u =>
      rw [hgs] at h2
      obtain ⟨m, hm⟩ := h2
      exact ⟨n + 1 + (m + 1), fun k => by rw [evL_turn rfl h, if_neg (by decide), show n + 1 + (m + 1) + k = n + (m + k + 1) + 1 from by omega, hn]; exact hm k⟩
    | ok s2 u =>
      rw [hgs] at h2
      obtain ⟨m, hm⟩ := h2
      exact ⟨n + 1 + (m + 1), fun k => by rw [evL_turn rfl h, if_neg (by decide), show n + 1 + (m + 1) + k = n + (m + k + 1) + 1 from by omega, hn]; exact hm k⟩
/-- An expression of the right form. -/
inductive Shape : Ex → Prop
  | text (s : ByteArray) (ks : List Ex) : Shape ⟨1, s, ks⟩
  | name (s : ByteArray) (ks : List Ex) : Shape ⟨2, s, ks⟩
  | cat (s : ByteArray) (ks : List Ex) (h : 0 < ks.length) (hk : ∀ x ∈ ks, Shape x) : Shape ⟨3, s, ks⟩
  | ife (s : ByteArray) (a b c d : Ex) (ha : Shape a) (hb : Shape b) (hc : Shape c) (hd : Shape d) : Shape ⟨4, s, [a, b, c, d]⟩
  | lete (s : ByteArray) (a b : Ex) (ha : Shape a) (hb : Shape b) : Shape ⟨5, s, [a, b]⟩
theorem meanCat_cons {x : Ex} {r : List Ex} {sees : List Nm} {t : Int} {vs : List ByteArray} : meanCat (x :: r) sees t vs = (mean x sees t).andThen fun s t => meanCat r sees t (vs ++ [s]) := by
  rw [meanCat]; cases mean x sees t <;> rfl
theorem mean_if {s : ByteArray} {a b c d : Ex} {sees : List Nm} {t : Int} (ht : t ≠ 1000) : mean ⟨4, s, [a, b, c, d]⟩ sees t =
    (mean a sees (t + 1)).andThen fun s1 t => (mean b sees t).andThen fun s2 t => if s1.toList = s2.toList then mean c sees t else mean d sees t := by
  simp only [mean, if_neg ht, show ¬ (4 : Int) = 1 by decide, show ¬ (4 : Int) = 2 by decide, show ¬ (4 : Int) = 3 by decide, if_false, if_true, meanIf]
  cases mean a sees (t + 1) with
  | fail e u => rfl
  | ok s1 u => simp only [Res.andThen]
theorem mean_let {s : ByteArray} {a b : Ex} {sees : List Nm} {t : Int} (ht : t ≠ 1000) : mean ⟨5, s, [a, b]⟩ sees t = (mean a sees (t + 1)).andThen fun s1 t => mean b ((s, s1) :: sees) t := by
  simp only [mean, if_neg ht, show ¬ (5 : Int) = 1 by decide, show ¬ (5 : Int) = 2 by decide, show ¬ (5 : Int) = 3 by decide, show ¬ (5 : Int) = 4 by decide, if_false, meanLet]
  cases mean a sees (t + 1) <;> rfl
theorem mean_cat {s : ByteArray} {ks : List Ex} {sees : List Nm} {t : Int} (ht : t ≠ 1000) : mean ⟨3, s, ks⟩ sees t = meanCat ks sees (t + 1) [] := by
  simp only [mean, if_neg ht, show ¬ (3 : Int) = 1 by decide, show ¬ (3 : Int) = 2 by decide, if_false, if_true]
theorem mean_full {x : Ex} {sees : List Nm} : mean x sees 1000 = .fail 52 1000 := by
  obtain ⟨k, s, ks⟩ := x; simp [mean]
theorem fits_full {x : Ex} {sees : List Nm} {t : Int} (ht : t = 1000) : Fits t (mean x sees t) := by
  subst ht; rw [mean_full]; exact ⟨Int.le_refl _, fun _ => Int.le_refl _, by decide⟩
theorem Fits.up {t : Int} {R : Res} (h : Fits (t + 1) R) (ht : t ≠ 1000) : Fits t R := by
  cases R with
  | fail e u => obtain ⟨h1, h2, h3⟩ := h; exact ⟨by omega, fun h => h2 (by omega), h3⟩
  | ok s u => obtain ⟨h1, h2, h3⟩ := h; exact ⟨by omega, fun h => h2 (by omega), h3⟩
theorem mean_fits {x : Ex} (hx : Shape x) : ∀ sees t, Fits t (mean x sees t) := by
  induction hx with
  | text s ks =>
    intro sees t
    by_cases ht : t = 1000
    · exact fits_full ht
    · simp only [mean, if_neg ht, if_true]; exact fits_fin ht
  | name s ks =>
    intro sees t
    by_cases ht : t = 1000
    · exact fits_full ht
    · simp only [mean, if_neg ht, if_true, show ¬ (2 : Int) = 1 by decide, if_false]
      split
      · exact fits_fin ht
      · exact ⟨by omega, by omega, by decide⟩
  | cat s ks h hk ih =>
    intro sees t
    by_cases ht : t = 1000
    · exact fits_full ht
    · rw [mean_cat ht]
      have go : ∀ (r : List Ex) (u : Int) (vs : List ByteArray), (∀ x ∈ r, ∀ sees t, Fits t (mean x sees t)) → t < u → (t ≤ 1000 → u ≤ 1000) → Fits t (meanCat r sees u vs) := by
        intro r
        induction r with
        | nil =>
          intro u vs _ h1 h2
          simp only [meanCat, fin]
          split
          · exact ⟨by omega, by omega, by decide⟩
          · exact ⟨by omega, by omega, by omega⟩
        | cons y r ihr =>
          intro u vs hr h1 h2
          rw [meanCat_cons]
          have hy := hr y (List.mem_cons_self ..) sees u
          cases hm : mean y sees u with
          | fail e v => rw [hm] at hy; obtain ⟨a, b, c⟩ := hy; exact ⟨by omega, fun h => b (h2 h), c⟩
          | ok s v => rw [hm] at hy; obtain ⟨a, b, c⟩ := hy; exact ihr v _ (fun x hx => hr x (List.mem_cons_of_mem _ hx)) (by omega) (fun h => b (h2 h))
      exact go ks (t + 1) [] (fun x hx => ih x hx) (by omega) (by omega)
  | ife s a b c d ha hb hc hd iha ihb ihc ihd =>
    intro sees t
    by_cases ht : t = 1000
    · exact fits_full ht
    · rw [mean_if ht]
      refine ((iha sees (t + 1)).andThen fun s1 u _ => (ihb sees u).andThen fun s2 v _ => ?_).up ht
      split
      · exact ihc sees v
      · exact ihd sees v
  | lete s a b ha hb iha ihb =>
    intro sees t
    by_cases ht : t = 1000
    · exact fits_full ht
    · rw [mean_let ht]
      exact ((iha sees (t + 1)).andThen fun s1 u _ => ihb _ u).up ht
theorem fits_id {t : Int} {R : Res} (h : Fits t R) : R.andThen (fun s t => fin s t) = R := by
  cases R with
  | fail e u => rfl
  | ok s u => show fin s u = _; unfold fin; rw [if_neg (by have := h.2.2; omega)]
theorem begin_full {frs : List Fr} {x : Ex} {sees : List Nm} : beginS ⟨frs, 1000, 0⟩ x sees = ⟨frs, 1000, 52⟩ := rfl
theorem begin_more {frs : List Fr} {t : Int} (h : t ≠ 1000) {x : Ex} {sees : List Nm} : beginS ⟨frs, t, 0⟩ x sees = ⟨⟨x, [], sees⟩ :: frs, t + 1, 0⟩ := by unfold beginS; rw [if_neg h]
theorem kidAt_eq {k : Int} {s : ByteArray} {pre r : List Ex} {x : Ex} : kidAt ⟨k, s, pre ++ x :: r⟩ pre.length = x := by
  simp [kidAt, rd_T84]
theorem sim_cat {s : ByteArray} {ks : List Ex} (hk0 : 0 < ks.length) {sees : List Nm} {frs : List Fr} : ∀ (r pre : List Ex) (vs : List ByteArray) (t : Int), ks = pre ++ r → vs.length = pre.length →
    (∀ x ∈ r, ∀ frs t sees, Fin (beginS ⟨frs, t, 0⟩ x sees) frs (mean x sees t)) → Fin ⟨⟨⟨3, s, ks⟩, vs, sees⟩ :: frs, t, 0⟩ frs (meanCat r sees t vs)
  | [], pre, vs, t, he, hv, hk => by
    have e1 : turnS ⟨⟨⟨3, s, ks⟩, vs, sees⟩ :: frs, t, 0⟩ = some (doneS ⟨⟨⟨3, s, ks⟩, vs, sees⟩ :: frs, t, 0⟩ (joinV vs)) := by
      have h1 : vs.length = ks.length := by rw [he]; simpa using hv
      simp [turnS, h1, hk0]
    exact fin_done e1
  | x :: r, pre, vs, t, he, hv, hk => by
    have h1 : vs.length < ks.length := by rw [he]; simp; omega
    have e1 : turnS ⟨⟨⟨3, s, ks⟩, vs, sees⟩ :: frs, t, 0⟩ = some (beginS ⟨⟨⟨3, s, ks⟩, vs, sees⟩ :: frs, t, 0⟩ x sees, ⟨#[]⟩, false) := by
      have h2 : kidAt ⟨3, s, ks⟩ vs.length = x := by rw [hv, he]; exact kidAt_eq
      simp [turnS, h1, Nat.ne_of_lt h1, h2]
    rw [meanCat_cons]
    exact fin_push (g := fun s t => meanCat r sees t (vs ++ [s])) e1 (hk x (List.mem_cons_self ..) _ _ _) fun v t' _ =>
      sim_cat hk0 r (pre ++ [x]) (vs ++ [v]) t' (by rw [he]; simp) (by simp [hv]) (fun y hy => hk y (List.mem_cons_of_mem _ hy))
theorem sim {x : Ex} (hx : Shape x) : ∀ frs t sees, Fin (beginS ⟨frs, t, 0⟩ x sees) frs (mean x sees t) := by
  induction hx with
  | text s ks =>
    intro frs t sees
    by_cases ht : t = 1000
    · subst ht; exact ⟨0, fun k => evL_fault (show (52 : Int) ≠ 0 by decide)⟩
    · rw [begin_more ht]; simp only [mean, if_neg ht, if_true]
      exact fin_done (by simp [turnS])
  | name s ks =>
    intro frs t sees
    by_cases ht : t = 1000
    · subst ht; exact ⟨0, fun k => evL_fault (show (52 : Int) ≠ 0 by decide)⟩
    · rw [begin_more ht]; simp only [mean, if_neg ht, if_true, show ¬ (2 : Int) = 1 by decide, if_false]
      by_cases hl : (look sees s).2 = true
      · rw [if_pos hl]; exact fin_done (by simp [turnS, hl])
      · rw [if_neg hl]
        refine ⟨1, fun k => ?_⟩
        rw [evL_turn rfl (st' := ⟨⟨⟨2, s, ks⟩, [], sees⟩ :: frs, t + 1, 51⟩) (s := ⟨#[]⟩) (all := false) (by simp [turnS, hl]), if_neg (by decide), show 1 + k = k + 1 from by omega, evL_fault (show (51 : Int) ≠ 0 by decide)]
  | cat s ks h hk ih =>
    intro frs t sees
    by_cases ht : t = 1000
    · subst ht; exact ⟨0, fun k => evL_fault (show (52 : Int) ≠ 0 by decide)⟩
    · rw [begin_more ht]; simp only [mean, if_neg ht, if_true, show ¬ (3 : Int) = 1 by decide, show ¬ (3 : Int) = 2 by decide, if_false]
      exact sim_cat h ks [] [] (t + 1) rfl rfl (fun x hx => ih x hx)
  | ife s a b c d ha hb hc hd iha ihb ihc ihd =>
    intro frs t sees
    by_cases ht : t = 1000
    · subst ht; exact ⟨0, fun k => evL_fault (show (52 : Int) ≠ 0 by decide)⟩
    · rw [begin_more ht, mean_if ht]
      refine fin_push (x := a) (sees := sees) (by simp [turnS, kidAt, rd_T84]) (iha _ _ _) fun s1 t1 _ => ?_
      refine fin_push (x := b) (sees := sees) (by simp [turnS, kidAt, rd_T84]) (ihb _ _ _) fun s2 t2 _ => ?_
      by_cases he : s1.toList = s2.toList
      · rw [if_pos he, ← fits_id (mean_fits hc sees t2)]
        exact fin_push (x := c) (sees := sees) (by simp [turnS, kidAt, rd_T84, he]) (ihc _ _ _) fun s3 t3 _ => fin_done (by simp [turnS])
      · rw [if_neg he, ← fits_id (mean_fits hd sees t2)]
        exact fin_push (x := d) (sees := sees) (by simp [turnS, kidAt, rd_T84, he]) (ihd _ _ _) fun s3 t3 _ => fin_done (by simp [turnS])
  | lete s a b ha hb iha ihb =>
    intro frs t sees
    by_cases ht : t = 1000
    · subst ht; exact ⟨0, fun k => evL_fault (show (52 : Int) ≠ 0 by decide)⟩
    · rw [begin_more ht, mean_let ht]
      refine fin_push (x := a) (sees := sees) (by simp [turnS, kidAt, rd_T84]) (iha _ _ _) fun s1 t1 _ => ?_
      rw [← fits_id (mean_fits hb ((s, s1) :: sees) t1)]
      exact fin_push (x := b) (sees := (s, s1) :: sees) (by simp [turnS, kidAt, rd_T84]) (ihb _ _ _) fun s3 t3 _ => fin_done (by simp [turnS])
end Go.Proofs.YtijgifinhbbmaaaGreatDoor
