/- EvalIfs, walked. -/
import Derived.Test.YtijgifinhbbmaaaGreatDoorLt
set_option linter.unusedVariables false
set_option linter.unusedSimpArgs false
namespace Go.Proofs.YtijgifinhbbmaaaGreatDoor
open Go.RowKit Go.Shelf Go.Proofs.YtijgifinhbbmaaaGreatDoorW.PrintWords Go.Proofs.YtijgifinhbbmaaaGreatDoor.Q
theorem weighs_is (x : Ex) (hx : WS x) (A : Option Addr) (c : Nat) (left L : Int) (h : wv x left 0 = L) (w : World) (h1 : 0 ≤ left) (h2 : left ≤ 16384) (hC : kEx.C w A x.f2.length x.f2) (hc : x.f2.length ≤ c) :
    Calls Tryz.prog 42 #[.agg #[.int .i64 x.f0, .string x.f1, .slice A x.f2.length c], .int .i64 left, .int .i64 0] w fun e w' => e = .returned (.int .i64 L) ∧ Below w.heap.size w w' := by
  subst h
  exact weighs_any x hx A c left w (by omega) h2 hC hc
theorem wv_is {x : Ex} (hx : WS x) {left L : Int} (h : wv x left 0 = L) (h1 : 0 ≤ left) : L ≤ left - 1 := by subst h; exact wv_le hx left 0 h1
theorem if_good (a b c d : Ex) (hx : AllS (ifX a b c d)) (q : Bool) (hb : goodB (ifX a b c d) = q) (K : Nat) (w : World) (hC : kEx.C w (some ⟨K, 0, none⟩) 4 [a, b, c, d]) :
    Calls Tryz.prog 48 #[.agg #[.int .i64 4, .string ⟨#[]⟩, .slice (some ⟨K, 0, none⟩) 4 4]] w fun e w' => e = .returned (.bool q) ∧ Below w.heap.size w w' := by
  subst hb
  exact good_any (ifX a b c d) hx (some ⟨K, 0, none⟩) 4 w hC (Nat.le_refl 4)
theorem if_eval (a b c d : Ex) (hx : AllS (ifX a b c d)) (v : ByteArray) (n f : Int) (h : evalT (ifX a b c d) = (v, n, f)) (K : Nat) (w : World) (hC : kEx.C w (some ⟨K, 0, none⟩) 4 [a, b, c, d]) :
    Calls Tryz.prog 43 #[.agg #[.int .i64 4, .string ⟨#[]⟩, .slice (some ⟨K, 0, none⟩) 4 4]] w fun e w' => e = .returned (.tuple #[.string v, .int .i64 n, .int .i64 f]) ∧ Below w.heap.size w w' := by
  have := eval_any (ifX a b c d) hx (some ⟨K, 0, none⟩) 4 w hC (Nat.le_refl 4)
  rw [h] at this
  exact this
set_option maxHeartbeats 2000000 in
set_option maxRecDepth 100000 in
theorem ifs_calls (a b c d : Ex) (A B C D : Option Addr) (k l m n : Nat) (w : World) (ha : a.f2.length ≤ k ∧ kEx.C w A a.f2.length a.f2 ∧ WS a) (hb : b.f2.length ≤ l ∧ kEx.C w B b.f2.length b.f2 ∧ WS b) (hc : c.f2.length ≤ m ∧ kEx.C w C c.f2.length c.f2 ∧ WS c) (hd : d.f2.length ≤ n ∧ kEx.C w D d.f2.length d.f2 ∧ WS d) (h5 : Has5 w) :
    Calls Tryz.prog 13 #[.agg #[.int .i64 a.f0, .string a.f1, .slice A a.f2.length k, .int .i64 b.f0, .string b.f1, .slice B b.f2.length l, .int .i64 c.f0, .string c.f1, .slice C c.f2.length m, .int .i64 d.f0, .string d.f1, .slice D d.f2.length n]] w fun e w' => e = .returned (.bool true) ∧ Below w.heap.size w w' := by
  have HA := Aside0.mk ha
  have HB' := Aside0.mk hb
  have HC := Aside0.mk hc
  have HD := Aside0.mk hd
  have H5 := Aside0.mk (h5.below (below1 w (.cells #[.int .i64 a.f0, .string a.f1, .slice A a.f2.length k, .int .i64 b.f0, .string b.f1, .slice B b.f2.length l, .int .i64 c.f0, .string c.f1, .slice C c.f2.length m, .int .i64 d.f0, .string d.f1, .slice D d.f2.length n] 107)))
  obtain ⟨L1, e1⟩ : ∃ L, wv a (max 4096 0) 0 = L := ⟨_, rfl⟩
  obtain ⟨L2, e2⟩ : ∃ L, wv b (max L1 0) 0 = L := ⟨_, rfl⟩
  obtain ⟨L3, e3⟩ : ∃ L, wv c (max L2 0) 0 = L := ⟨_, rfl⟩
  obtain ⟨L4, e4⟩ : ∃ L, wv d (max L3 0) 0 = L := ⟨_, rfl⟩
  have b1 : L1 ≤ 4096 := by have := wv_is ha.2.2 e1 (by decide); omega
  have b2 : L2 ≤ 4096 := by have := wv_is hb.2.2 e2 (by omega); omega
  have b3 : L3 ≤ 4096 := by have := wv_is hc.2.2 e3 (by omega); omega
  have E1 := Aside0.mk e1
  have E2 := Aside0.mk e2
  have E3 := Aside0.mk e3
  have E4 := Aside0.mk e4
  clear ha hb hc hd h5 e1 e2 e3 e4
  have i0 : ∀ w, (Instr.index 107 (.agg #[.int .i64 a.f0, .string a.f1, .slice A a.f2.length k, .int .i64 b.f0, .string b.f1, .slice B b.f2.length l, .int .i64 c.f0, .string c.f1, .slice C c.f2.length m, .int .i64 d.f0, .string d.f1, .slice D d.f2.length n]) (.int .i64 0)).run Tryz.prog w = .ok (.agg #[.int .i64 a.f0, .string a.f1, .slice A a.f2.length k]) w := fun _ => by kernel_rfl
  have i1 : ∀ w, (Instr.index 107 (.agg #[.int .i64 a.f0, .string a.f1, .slice A a.f2.length k, .int .i64 b.f0, .string b.f1, .slice B b.f2.length l, .int .i64 c.f0, .string c.f1, .slice C c.f2.length m, .int .i64 d.f0, .string d.f1, .slice D d.f2.length n]) (.int .i64 1)).run Tryz.prog w = .ok (.agg #[.int .i64 b.f0, .string b.f1, .slice B b.f2.length l]) w := fun _ => by kernel_rfl
  have i2 : ∀ w, (Instr.index 107 (.agg #[.int .i64 a.f0, .string a.f1, .slice A a.f2.length k, .int .i64 b.f0, .string b.f1, .slice B b.f2.length l, .int .i64 c.f0, .string c.f1, .slice C c.f2.length m, .int .i64 d.f0, .string d.f1, .slice D d.f2.length n]) (.int .i64 2)).run Tryz.prog w = .ok (.agg #[.int .i64 c.f0, .string c.f1, .slice C c.f2.length m]) w := fun _ => by kernel_rfl
  have i3 : ∀ w, (Instr.index 107 (.agg #[.int .i64 a.f0, .string a.f1, .slice A a.f2.length k, .int .i64 b.f0, .string b.f1, .slice B b.f2.length l, .int .i64 c.f0, .string c.f1, .slice C c.f2.length m, .int .i64 d.f0, .string d.f1, .slice D d.f2.length n]) (.int .i64 3)).run Tryz.prog w = .ok (.agg #[.int .i64 d.f0, .string d.f1, .slice D d.f2.length n]) w := fun _ => by kernel_rfl
  go_enter Tryz.func13, Tryz.ntmps13
  go_wp2_with (go_at_call 41; refine (saplinglaw13_alive.calls true _ H5.out rfl).mono ?_; rintro e u ⟨rfl, hb⟩; have hbx := blk_of (heap_alloc_new w _) hb; have HB := Aside0.mk ((below1 w _).trans (hb.mono (by simp))); have hl := blk_lt hbx; clear hb; have HBX := Aside0.mk hbx; have d0 := blk_cell hbx 0; have d1 := blk_cell hbx 1; have d2 := blk_cell hbx 2; have d3 := blk_cell hbx 3; have d4 := blk_cell hbx 4; have d5 := blk_cell hbx 5; have d6 := blk_cell hbx 6; have d7 := blk_cell hbx 7; have d8 := blk_cell hbx 8; have d9 := blk_cell hbx 9; have d10 := blk_cell hbx 10; have d11 := blk_cell hbx 11; clear hbx; simp only [List.getElem?_toArray, List.getElem?_cons_zero, List.getElem?_cons_succ] at d0 d1 d2 d3 d4 d5 d6 d7 d8 d9 d10 d11)
  refine wp_loop_rounds 5 ?_
  rw [rounds_succ]
  clear d0 d1 d2 d3 d4 d5 d6 d7 d8 d9 d10 d11
  go_wp2_with (go_at_call 42; (with_reducible refine (weighs_is a HA.out.2.2 A k (max 4096 0) L1 E1.out _ (by omega) (by omega) (Kd.C_below HA.out.2.1 (HB.out.alloc HB.out.size _)) HA.out.1).mono ?_); rintro e u1 ⟨rfl, hb⟩; have HB1 := Aside0.mk (HB.out.trans (((below1 _ _).trans (hb.mono (by simp))).mono HB.out.size)); have HBX1 := Aside0.mk (blk_of (blk_alloc HBX.out _) hb); clear hb)
  rw [rounds_succ]
  go_wp2_with (go_at_call 42; (with_reducible refine (weighs_is b HB'.out.2.2 B l (max L1 0) L2 E2.out _ (by omega) (by omega) (Kd.C_below HB'.out.2.1 (HB1.out.alloc HB1.out.size _)) HB'.out.1).mono ?_); rintro e u2 ⟨rfl, hb⟩; have HB2 := Aside0.mk (HB1.out.trans (((below1 _ _).trans (hb.mono (by simp))).mono HB1.out.size)); have HBX2 := Aside0.mk (blk_of (blk_alloc HBX1.out _) hb); clear hb)
  rw [rounds_succ]
  go_wp2_with (go_at_call 42; (with_reducible refine (weighs_is c HC.out.2.2 C m (max L2 0) L3 E3.out _ (by omega) (by omega) (Kd.C_below HC.out.2.1 (HB2.out.alloc HB2.out.size _)) HC.out.1).mono ?_); rintro e u3 ⟨rfl, hb⟩; have HB3 := Aside0.mk (HB2.out.trans (((below1 _ _).trans (hb.mono (by simp))).mono HB2.out.size)); have HBX3 := Aside0.mk (blk_of (blk_alloc HBX2.out _) hb); clear hb)
  rw [rounds_succ]
  go_wp2_with (go_at_call 42; (with_reducible refine (weighs_is d HD.out.2.2 D n (max L3 0) L4 E4.out _ (by omega) (by omega) (Kd.C_below HD.out.2.1 (HB3.out.alloc HB3.out.size _)) HD.out.1).mono ?_); rintro e u4 ⟨rfl, hb⟩; have HB4 := Aside0.mk (HB3.out.trans (((below1 _ _).trans (hb.mono (by simp))).mono HB3.out.size)); have HBX4 := Aside0.mk (blk_of (blk_alloc HBX3.out _) hb); clear hb)
  rw [rounds_succ]
  have hbx := HBX4.out
  have hlx := blk_lt hbx
  have d0 : u4.cell? ⟨w.heap.size, 0, none⟩ = some (.int .i64 a.f0) := blk_cell hbx 0
  have d1 : u4.cell? ⟨w.heap.size, 1, none⟩ = some (.string a.f1) := blk_cell hbx 1
  have d2 : u4.cell? ⟨w.heap.size, 2, none⟩ = some (.slice A a.f2.length k) := blk_cell hbx 2
  have d3 : u4.cell? ⟨w.heap.size, 3, none⟩ = some (.int .i64 b.f0) := blk_cell hbx 3
  have d4 : u4.cell? ⟨w.heap.size, 4, none⟩ = some (.string b.f1) := blk_cell hbx 4
  have d5 : u4.cell? ⟨w.heap.size, 5, none⟩ = some (.slice B b.f2.length l) := blk_cell hbx 5
  have d6 : u4.cell? ⟨w.heap.size, 6, none⟩ = some (.int .i64 c.f0) := blk_cell hbx 6
  have d7 : u4.cell? ⟨w.heap.size, 7, none⟩ = some (.string c.f1) := blk_cell hbx 7
  have d8 : u4.cell? ⟨w.heap.size, 8, none⟩ = some (.slice C c.f2.length m) := blk_cell hbx 8
  have d9 : u4.cell? ⟨w.heap.size, 9, none⟩ = some (.int .i64 d.f0) := blk_cell hbx 9
  have d10 : u4.cell? ⟨w.heap.size, 10, none⟩ = some (.string d.f1) := blk_cell hbx 10
  have d11 : u4.cell? ⟨w.heap.size, 11, none⟩ = some (.slice D d.f2.length n) := blk_cell hbx 11
  clear hbx
  by_cases h4 : L4 < 0
  · go_wp2
    go_ret
    exact ⟨rfl, (HB4.out.alloc HB4.out.size _).alloc (by have := HB4.out.size; simp; omega) _⟩
  · have h4' : 0 ≤ L4 := by omega
    have g3 : 0 ≤ L3 := by have := wv_is HD.out.2.2 E4.out (by omega); omega
    have g2 : 0 ≤ L2 := by have := wv_is HC.out.2.2 E3.out (by omega); omega
    have g1 : 0 ≤ L1 := by have := wv_is HB'.out.2.2 E2.out (by omega); omega
    have aa := allS_of_wv HA.out.2.2 (max 4096 0) 0 (by decide) (by decide) (by rw [E1.out]; exact g1)
    have ab := allS_of_wv HB'.out.2.2 (max L1 0) 0 (by omega) (by omega) (by rw [E2.out]; exact g2)
    have ac := allS_of_wv HC.out.2.2 (max L2 0) 0 (by omega) (by omega) (by rw [E3.out]; exact g3)
    have ad := allS_of_wv HD.out.2.2 (max L3 0) 0 (by omega) (by omega) (by rw [E4.out]; exact h4')
    have hall : AllS (ifX a b c d) := .mk _ _ _ (by decide) (by simp) (by
      intro y hy
      simp only [List.mem_cons, List.not_mem_nil, or_false] at hy
      rcases hy with rfl | rfl | rfl | rfl
      · exact aa
      · exact ab
      · exact ac
      · exact ad)
    have HALL := Aside0.mk hall
    have fa := evalT_fit aa
    have fb := evalT_fit ab
    have HAA := Aside0.mk aa
    have HAB := Aside0.mk ab
    have HAC := Aside0.mk ac
    have HAD := Aside0.mk ad
    have fc := evalT_fit ac
    have fd := evalT_fit ad
    clear aa ab ac ad hall g1 g2 g3 b1 b2 b3 h4
    go_wp2_with fail
    have hK := (two_new u4 (.cells #[.int .i64 a.f0, .string a.f1, .slice A a.f2.length k, .int .i64 b.f0, .string b.f1, .slice B b.f2.length l, .int .i64 c.f0, .string c.f1, .slice C c.f2.length m, .int .i64 d.f0, .string d.f1, .slice D d.f2.length n] 84) (.cells #[.int .i64 4, .string ⟨#[]⟩, .slice (some ⟨u4.heap.size, 0, none⟩) 4 4] 84)).1
    have hL := (two_new u4 (.cells #[.int .i64 a.f0, .string a.f1, .slice A a.f2.length k, .int .i64 b.f0, .string b.f1, .slice B b.f2.length l, .int .i64 c.f0, .string c.f1, .slice C c.f2.length m, .int .i64 d.f0, .string d.f1, .slice D d.f2.length n] 84) (.cells #[.int .i64 4, .string ⟨#[]⟩, .slice (some ⟨u4.heap.size, 0, none⟩) 4 4] 84)).2
    have hX := two_old HBX4.out (.cells #[.int .i64 a.f0, .string a.f1, .slice A a.f2.length k, .int .i64 b.f0, .string b.f1, .slice B b.f2.length l, .int .i64 c.f0, .string c.f1, .slice C c.f2.length m, .int .i64 d.f0, .string d.f1, .slice D d.f2.length n] 84) (.cells #[.int .i64 4, .string ⟨#[]⟩, .slice (some ⟨u4.heap.size, 0, none⟩) 4 4] 84)
    have hW := (HB4.out.alloc HB4.out.size (.cells #[.int .i64 a.f0, .string a.f1, .slice A a.f2.length k, .int .i64 b.f0, .string b.f1, .slice B b.f2.length l, .int .i64 c.f0, .string c.f1, .slice C c.f2.length m, .int .i64 d.f0, .string d.f1, .slice D d.f2.length n] 84)).alloc (by have := HB4.out.size; simp; omega) (.cells #[.int .i64 4, .string ⟨#[]⟩, .slice (some ⟨u4.heap.size, 0, none⟩) 4 4] 84)
    generalize (u4.alloc (.cells #[.int .i64 a.f0, .string a.f1, .slice A a.f2.length k, .int .i64 b.f0, .string b.f1, .slice B b.f2.length l, .int .i64 c.f0, .string c.f1, .slice C c.f2.length m, .int .i64 d.f0, .string d.f1, .slice D d.f2.length n] 84)).alloc (.cells #[.int .i64 4, .string ⟨#[]⟩, .slice (some ⟨u4.heap.size, 0, none⟩) 4 4] 84) = U at hK hL hX hW ⊢
    generalize u4.heap.size = K at *
    have hCK : kEx.C U (some ⟨K, 0, none⟩) 4 [a, b, c, d] := C_rows hK [a, b, c, d] (by simp) (fun j y hj => by
      match j, hj with
      | 0, hj => cases hj; exact ⟨A, k, HA.out.1, Kd.C_below HA.out.2.1 hW, rfl, rfl, rfl⟩
      | 1, hj => cases hj; exact ⟨B, l, HB'.out.1, Kd.C_below HB'.out.2.1 hW, rfl, rfl, rfl⟩
      | 2, hj => cases hj; exact ⟨C, m, HC.out.1, Kd.C_below HC.out.2.1 hW, rfl, rfl, rfl⟩
      | 3, hj => cases hj; exact ⟨D, n, HD.out.1, Kd.C_below HD.out.2.1 hW, rfl, rfl, rfl⟩)
    have HCK := Aside0.mk hCK
    have HLL := Aside0.mk hL
    have HXX := Aside0.mk hX
    have HW := Aside0.mk hW
    clear hCK hK hL hX hW
    clear d0 d1 d2 d3 d4 d5 d6 d7 d8 d9 d10 d11 hlx
    cases hg : goodB (ifX a b c d)
    · have HG := Aside0.mk hg
      clear hg
      go_wp2_with (first | (go_at_call 48; refine (if_good a b c d HALL.out false HG.out K _ HCK.out).mono ?_; rintro e v1 ⟨rfl, hb⟩; have HW1 := Aside0.mk (HW.out.trans (hb.mono HW.out.size)); have HCK1 := Aside0.mk (Kd.C_below HCK.out hb); have HLL1 := Aside0.mk (blk_of HLL.out hb); have HX1 := Aside0.mk (blk_of HXX.out hb); clear hb; have p0 : v1.cell? ⟨w.heap.size, 0, none⟩ = some (.int .i64 a.f0) := blk_cell HX1.out 0; have p1 : v1.cell? ⟨w.heap.size, 1, none⟩ = some (.string a.f1) := blk_cell HX1.out 1; have p2 : v1.cell? ⟨w.heap.size, 2, none⟩ = some (.slice A a.f2.length k) := blk_cell HX1.out 2))
      go_ret
      exact ⟨rfl, HW1.out⟩
    · obtain ⟨s1, n1, g1, he1⟩ : ∃ v n f, evalT a = (v, n, f) := ⟨_, _, _, rfl⟩
      obtain ⟨s2, n2, g2, he2⟩ : ∃ v n f, evalT b = (v, n, f) := ⟨_, _, _, rfl⟩
      rw [he1] at fa
      rw [he2] at fb
      simp only at fa fb
      obtain ⟨n10, n11, _⟩ := fa
      obtain ⟨n20, n21, _⟩ := fb
      have HG := Aside0.mk hg
      by_cases h1 : g1 = 0
      · by_cases h2 : g2 = 0
        · subst h1 h2
          by_cases hs : s1.toList = s2.toList
          · have hlaw := ifs_law (k := c) HALL.out hg (by rw [he1]) (by rw [he2]) (by rw [he1, he2]; exact (if_pos hs).symm)
            clear hg
            have hs2 : (s1.toList == s2.toList) = true := by simpa using hs
            clear hs
            obtain ⟨s3, n3, g3, he3⟩ : ∃ v n f, evalT c = (v, n, f) := ⟨_, _, _, rfl⟩
            obtain ⟨s4, n4, g4, he4⟩ : ∃ v n f, evalT (ifX a b c d) = (v, n, f) := ⟨_, _, _, rfl⟩
            rw [he1, he2, he3, he4] at hlaw
            rw [he3] at fc
            simp only at hlaw fc
            obtain ⟨n30, n31, _⟩ := fc
            have HEA := Aside0.mk he1
            have HEB := Aside0.mk he2
            have HEK := Aside0.mk he3
            have HEX := Aside0.mk he4
            have HAK := Aside0.mk HAC.out
            clear he1 he2 he3 he4
            by_cases ho : 1000 < 1 + n1 + n2 + n3
            · have hx := hlaw.1 ho
              clear hlaw
              subst hx
              go_wp2_with (first | (go_at_call 48; refine (if_good a b c d HALL.out true HG.out K _ HCK.out).mono ?_; rintro e v1 ⟨rfl, hb⟩; have HW1 := Aside0.mk (HW.out.trans (hb.mono HW.out.size)); have HCK1 := Aside0.mk (Kd.C_below HCK.out hb); have HLL1 := Aside0.mk (blk_of HLL.out hb); have HX1 := Aside0.mk (blk_of HXX.out hb); clear hb; have p0 : v1.cell? ⟨w.heap.size, 0, none⟩ = some (.int .i64 a.f0) := blk_cell HX1.out 0; have p1 : v1.cell? ⟨w.heap.size, 1, none⟩ = some (.string a.f1) := blk_cell HX1.out 1; have p2 : v1.cell? ⟨w.heap.size, 2, none⟩ = some (.slice A a.f2.length k) := blk_cell HX1.out 2) | (go_at_call 43; (with_reducible refine (eval_is a HAA.out _ _ _ HEA.out A k _ (Kd.C_below HA.out.2.1 HW1.out) HA.out.1).mono ?_); rintro e v2 ⟨rfl, hb⟩; have HW2 := Aside0.mk (HW1.out.trans (hb.mono HW1.out.size)); have HCK2 := Aside0.mk (Kd.C_below HCK1.out hb); have HLL2 := Aside0.mk (blk_of HLL1.out hb); have HX2 := Aside0.mk (blk_of HX1.out hb); clear hb; have q3 : v2.cell? ⟨w.heap.size, 3, none⟩ = some (.int .i64 b.f0) := blk_cell HX2.out 3; have q4 : v2.cell? ⟨w.heap.size, 4, none⟩ = some (.string b.f1) := blk_cell HX2.out 4; have q5 : v2.cell? ⟨w.heap.size, 5, none⟩ = some (.slice B b.f2.length l) := blk_cell HX2.out 5) | (go_at_call 43; (with_reducible refine (eval_is b HAB.out _ _ _ HEB.out B l _ (Kd.C_below HB'.out.2.1 HW2.out) HB'.out.1).mono ?_); rintro e v3 ⟨rfl, hb⟩; have HW3 := Aside0.mk (HW2.out.trans (hb.mono HW2.out.size)); have HCK3 := Aside0.mk (Kd.C_below HCK2.out hb); have HLL3 := Aside0.mk (blk_of HLL2.out hb); have HX3 := Aside0.mk (blk_of HX2.out hb); have hlx := blk_lt HX3.out; clear hb; have r6 : v3.cell? ⟨w.heap.size, 6, none⟩ = some (.int .i64 c.f0) := blk_cell HX3.out 6; have r7 : v3.cell? ⟨w.heap.size, 7, none⟩ = some (.string c.f1) := blk_cell HX3.out 7; have r8 : v3.cell? ⟨w.heap.size, 8, none⟩ = some (.slice C c.f2.length m) := blk_cell HX3.out 8; have r9 : v3.cell? ⟨w.heap.size, 9, none⟩ = some (.int .i64 d.f0) := blk_cell HX3.out 9; have r10 : v3.cell? ⟨w.heap.size, 10, none⟩ = some (.string d.f1) := blk_cell HX3.out 10; have r11 : v3.cell? ⟨w.heap.size, 11, none⟩ = some (.slice D d.f2.length n) := blk_cell HX3.out 11) | (go_at_call 43; (with_reducible refine (eval_is c HAK.out _ _ _ HEK.out C m _ (Kd.C_below HC.out.2.1 (HW3.out.alloc HW3.out.size _)) HC.out.1).mono ?_); rintro e v4 ⟨rfl, hb⟩; have HW4 := Aside0.mk (HW3.out.trans (((below1 _ _).trans (hb.mono (by simp))).mono HW3.out.size)); have HCK4 := Aside0.mk (Kd.C_below (Kd.C_below HCK3.out (below1 _ _)) hb); have HLL4 := Aside0.mk (blk_of (blk_alloc HLL3.out _) hb); clear hb; have t0 : v4.cell? ⟨K + 1, 0, none⟩ = some (.int .i64 4) := blk_cell HLL4.out 0; have t1 : v4.cell? ⟨K + 1, 1, none⟩ = some (.string ⟨#[]⟩) := blk_cell HLL4.out 1; have t2 : v4.cell? ⟨K + 1, 2, none⟩ = some (.slice (some ⟨K, 0, none⟩) 4 4) := blk_cell HLL4.out 2) | (go_at_call 43; (with_reducible refine (if_eval a b c d HALL.out _ _ _ HEX.out K _ HCK4.out).mono ?_); rintro e v5 ⟨rfl, hb⟩; have HW5 := Aside0.mk (HW4.out.trans (hb.mono HW4.out.size)); clear hb))
              go_ret
              exact ⟨rfl, HW5.out⟩
            · obtain ⟨x1, x2, x3⟩ := hlaw.2 ho
              clear hlaw
              subst x1 x2 x3
              go_wp2_with (first | (go_at_call 48; refine (if_good a b c d HALL.out true HG.out K _ HCK.out).mono ?_; rintro e v1 ⟨rfl, hb⟩; have HW1 := Aside0.mk (HW.out.trans (hb.mono HW.out.size)); have HCK1 := Aside0.mk (Kd.C_below HCK.out hb); have HLL1 := Aside0.mk (blk_of HLL.out hb); have HX1 := Aside0.mk (blk_of HXX.out hb); clear hb; have p0 : v1.cell? ⟨w.heap.size, 0, none⟩ = some (.int .i64 a.f0) := blk_cell HX1.out 0; have p1 : v1.cell? ⟨w.heap.size, 1, none⟩ = some (.string a.f1) := blk_cell HX1.out 1; have p2 : v1.cell? ⟨w.heap.size, 2, none⟩ = some (.slice A a.f2.length k) := blk_cell HX1.out 2) | (go_at_call 43; (with_reducible refine (eval_is a HAA.out _ _ _ HEA.out A k _ (Kd.C_below HA.out.2.1 HW1.out) HA.out.1).mono ?_); rintro e v2 ⟨rfl, hb⟩; have HW2 := Aside0.mk (HW1.out.trans (hb.mono HW1.out.size)); have HCK2 := Aside0.mk (Kd.C_below HCK1.out hb); have HLL2 := Aside0.mk (blk_of HLL1.out hb); have HX2 := Aside0.mk (blk_of HX1.out hb); clear hb; have q3 : v2.cell? ⟨w.heap.size, 3, none⟩ = some (.int .i64 b.f0) := blk_cell HX2.out 3; have q4 : v2.cell? ⟨w.heap.size, 4, none⟩ = some (.string b.f1) := blk_cell HX2.out 4; have q5 : v2.cell? ⟨w.heap.size, 5, none⟩ = some (.slice B b.f2.length l) := blk_cell HX2.out 5) | (go_at_call 43; (with_reducible refine (eval_is b HAB.out _ _ _ HEB.out B l _ (Kd.C_below HB'.out.2.1 HW2.out) HB'.out.1).mono ?_); rintro e v3 ⟨rfl, hb⟩; have HW3 := Aside0.mk (HW2.out.trans (hb.mono HW2.out.size)); have HCK3 := Aside0.mk (Kd.C_below HCK2.out hb); have HLL3 := Aside0.mk (blk_of HLL2.out hb); have HX3 := Aside0.mk (blk_of HX2.out hb); have hlx := blk_lt HX3.out; clear hb; have r6 : v3.cell? ⟨w.heap.size, 6, none⟩ = some (.int .i64 c.f0) := blk_cell HX3.out 6; have r7 : v3.cell? ⟨w.heap.size, 7, none⟩ = some (.string c.f1) := blk_cell HX3.out 7; have r8 : v3.cell? ⟨w.heap.size, 8, none⟩ = some (.slice C c.f2.length m) := blk_cell HX3.out 8; have r9 : v3.cell? ⟨w.heap.size, 9, none⟩ = some (.int .i64 d.f0) := blk_cell HX3.out 9; have r10 : v3.cell? ⟨w.heap.size, 10, none⟩ = some (.string d.f1) := blk_cell HX3.out 10; have r11 : v3.cell? ⟨w.heap.size, 11, none⟩ = some (.slice D d.f2.length n) := blk_cell HX3.out 11) | (go_at_call 43; (with_reducible refine (eval_is c HAK.out _ _ _ HEK.out C m _ (Kd.C_below HC.out.2.1 (HW3.out.alloc HW3.out.size _)) HC.out.1).mono ?_); rintro e v4 ⟨rfl, hb⟩; have HW4 := Aside0.mk (HW3.out.trans (((below1 _ _).trans (hb.mono (by simp))).mono HW3.out.size)); have HCK4 := Aside0.mk (Kd.C_below (Kd.C_below HCK3.out (below1 _ _)) hb); have HLL4 := Aside0.mk (blk_of (blk_alloc HLL3.out _) hb); clear hb; have t0 : v4.cell? ⟨K + 1, 0, none⟩ = some (.int .i64 4) := blk_cell HLL4.out 0; have t1 : v4.cell? ⟨K + 1, 1, none⟩ = some (.string ⟨#[]⟩) := blk_cell HLL4.out 1; have t2 : v4.cell? ⟨K + 1, 2, none⟩ = some (.slice (some ⟨K, 0, none⟩) 4 4) := blk_cell HLL4.out 2) | (go_at_call 43; (with_reducible refine (if_eval a b c d HALL.out _ _ _ HEX.out K _ HCK4.out).mono ?_); rintro e v5 ⟨rfl, hb⟩; have HW5 := Aside0.mk (HW4.out.trans (hb.mono HW4.out.size)); clear hb))
              go_ret
              exact ⟨rfl, HW5.out⟩
          · have hlaw := ifs_law (k := d) HALL.out hg (by rw [he1]) (by rw [he2]) (by rw [he1, he2]; exact (if_neg hs).symm)
            clear hg
            have hs2 : (s1.toList == s2.toList) = false := by simpa using hs
            clear hs
            obtain ⟨s3, n3, g3, he3⟩ : ∃ v n f, evalT d = (v, n, f) := ⟨_, _, _, rfl⟩
            obtain ⟨s4, n4, g4, he4⟩ : ∃ v n f, evalT (ifX a b c d) = (v, n, f) := ⟨_, _, _, rfl⟩
            rw [he1, he2, he3, he4] at hlaw
            rw [he3] at fd
            simp only at hlaw fd
            obtain ⟨n30, n31, _⟩ := fd
            have HEA := Aside0.mk he1
            have HEB := Aside0.mk he2
            have HEK := Aside0.mk he3
            have HEX := Aside0.mk he4
            have HAK := Aside0.mk HAD.out
            clear he1 he2 he3 he4
            by_cases ho : 1000 < 1 + n1 + n2 + n3
            · have hx := hlaw.1 ho
              clear hlaw
              subst hx
              go_wp2_with (first | (go_at_call 48; refine (if_good a b c d HALL.out true HG.out K _ HCK.out).mono ?_; rintro e v1 ⟨rfl, hb⟩; have HW1 := Aside0.mk (HW.out.trans (hb.mono HW.out.size)); have HCK1 := Aside0.mk (Kd.C_below HCK.out hb); have HLL1 := Aside0.mk (blk_of HLL.out hb); have HX1 := Aside0.mk (blk_of HXX.out hb); clear hb; have p0 : v1.cell? ⟨w.heap.size, 0, none⟩ = some (.int .i64 a.f0) := blk_cell HX1.out 0; have p1 : v1.cell? ⟨w.heap.size, 1, none⟩ = some (.string a.f1) := blk_cell HX1.out 1; have p2 : v1.cell? ⟨w.heap.size, 2, none⟩ = some (.slice A a.f2.length k) := blk_cell HX1.out 2) | (go_at_call 43; (with_reducible refine (eval_is a HAA.out _ _ _ HEA.out A k _ (Kd.C_below HA.out.2.1 HW1.out) HA.out.1).mono ?_); rintro e v2 ⟨rfl, hb⟩; have HW2 := Aside0.mk (HW1.out.trans (hb.mono HW1.out.size)); have HCK2 := Aside0.mk (Kd.C_below HCK1.out hb); have HLL2 := Aside0.mk (blk_of HLL1.out hb); have HX2 := Aside0.mk (blk_of HX1.out hb); clear hb; have q3 : v2.cell? ⟨w.heap.size, 3, none⟩ = some (.int .i64 b.f0) := blk_cell HX2.out 3; have q4 : v2.cell? ⟨w.heap.size, 4, none⟩ = some (.string b.f1) := blk_cell HX2.out 4; have q5 : v2.cell? ⟨w.heap.size, 5, none⟩ = some (.slice B b.f2.length l) := blk_cell HX2.out 5) | (go_at_call 43; (with_reducible refine (eval_is b HAB.out _ _ _ HEB.out B l _ (Kd.C_below HB'.out.2.1 HW2.out) HB'.out.1).mono ?_); rintro e v3 ⟨rfl, hb⟩; have HW3 := Aside0.mk (HW2.out.trans (hb.mono HW2.out.size)); have HCK3 := Aside0.mk (Kd.C_below HCK2.out hb); have HLL3 := Aside0.mk (blk_of HLL2.out hb); have HX3 := Aside0.mk (blk_of HX2.out hb); have hlx := blk_lt HX3.out; clear hb; have r6 : v3.cell? ⟨w.heap.size, 6, none⟩ = some (.int .i64 c.f0) := blk_cell HX3.out 6; have r7 : v3.cell? ⟨w.heap.size, 7, none⟩ = some (.string c.f1) := blk_cell HX3.out 7; have r8 : v3.cell? ⟨w.heap.size, 8, none⟩ = some (.slice C c.f2.length m) := blk_cell HX3.out 8; have r9 : v3.cell? ⟨w.heap.size, 9, none⟩ = some (.int .i64 d.f0) := blk_cell HX3.out 9; have r10 : v3.cell? ⟨w.heap.size, 10, none⟩ = some (.string d.f1) := blk_cell HX3.out 10; have r11 : v3.cell? ⟨w.heap.size, 11, none⟩ = some (.slice D d.f2.length n) := blk_cell HX3.out 11) | (go_at_call 43; (with_reducible refine (eval_is d HAK.out _ _ _ HEK.out D n _ (Kd.C_below HD.out.2.1 (HW3.out.alloc HW3.out.size _)) HD.out.1).mono ?_); rintro e v4 ⟨rfl, hb⟩; have HW4 := Aside0.mk (HW3.out.trans (((below1 _ _).trans (hb.mono (by simp))).mono HW3.out.size)); have HCK4 := Aside0.mk (Kd.C_below (Kd.C_below HCK3.out (below1 _ _)) hb); have HLL4 := Aside0.mk (blk_of (blk_alloc HLL3.out _) hb); clear hb; have t0 : v4.cell? ⟨K + 1, 0, none⟩ = some (.int .i64 4) := blk_cell HLL4.out 0; have t1 : v4.cell? ⟨K + 1, 1, none⟩ = some (.string ⟨#[]⟩) := blk_cell HLL4.out 1; have t2 : v4.cell? ⟨K + 1, 2, none⟩ = some (.slice (some ⟨K, 0, none⟩) 4 4) := blk_cell HLL4.out 2) | (go_at_call 43; (with_reducible refine (if_eval a b c d HALL.out _ _ _ HEX.out K _ HCK4.out).mono ?_); rintro e v5 ⟨rfl, hb⟩; have HW5 := Aside0.mk (HW4.out.trans (hb.mono HW4.out.size)); clear hb))
              go_ret
              exact ⟨rfl, HW5.out⟩
            · obtain ⟨x1, x2, x3⟩ := hlaw.2 ho
              clear hlaw
              subst x1 x2 x3
              go_wp2_with (first | (go_at_call 48; refine (if_good a b c d HALL.out true HG.out K _ HCK.out).mono ?_; rintro e v1 ⟨rfl, hb⟩; have HW1 := Aside0.mk (HW.out.trans (hb.mono HW.out.size)); have HCK1 := Aside0.mk (Kd.C_below HCK.out hb); have HLL1 := Aside0.mk (blk_of HLL.out hb); have HX1 := Aside0.mk (blk_of HXX.out hb); clear hb; have p0 : v1.cell? ⟨w.heap.size, 0, none⟩ = some (.int .i64 a.f0) := blk_cell HX1.out 0; have p1 : v1.cell? ⟨w.heap.size, 1, none⟩ = some (.string a.f1) := blk_cell HX1.out 1; have p2 : v1.cell? ⟨w.heap.size, 2, none⟩ = some (.slice A a.f2.length k) := blk_cell HX1.out 2) | (go_at_call 43; (with_reducible refine (eval_is a HAA.out _ _ _ HEA.out A k _ (Kd.C_below HA.out.2.1 HW1.out) HA.out.1).mono ?_); rintro e v2 ⟨rfl, hb⟩; have HW2 := Aside0.mk (HW1.out.trans (hb.mono HW1.out.size)); have HCK2 := Aside0.mk (Kd.C_below HCK1.out hb); have HLL2 := Aside0.mk (blk_of HLL1.out hb); have HX2 := Aside0.mk (blk_of HX1.out hb); clear hb; have q3 : v2.cell? ⟨w.heap.size, 3, none⟩ = some (.int .i64 b.f0) := blk_cell HX2.out 3; have q4 : v2.cell? ⟨w.heap.size, 4, none⟩ = some (.string b.f1) := blk_cell HX2.out 4; have q5 : v2.cell? ⟨w.heap.size, 5, none⟩ = some (.slice B b.f2.length l) := blk_cell HX2.out 5) | (go_at_call 43; (with_reducible refine (eval_is b HAB.out _ _ _ HEB.out B l _ (Kd.C_below HB'.out.2.1 HW2.out) HB'.out.1).mono ?_); rintro e v3 ⟨rfl, hb⟩; have HW3 := Aside0.mk (HW2.out.trans (hb.mono HW2.out.size)); have HCK3 := Aside0.mk (Kd.C_below HCK2.out hb); have HLL3 := Aside0.mk (blk_of HLL2.out hb); have HX3 := Aside0.mk (blk_of HX2.out hb); have hlx := blk_lt HX3.out; clear hb; have r6 : v3.cell? ⟨w.heap.size, 6, none⟩ = some (.int .i64 c.f0) := blk_cell HX3.out 6; have r7 : v3.cell? ⟨w.heap.size, 7, none⟩ = some (.string c.f1) := blk_cell HX3.out 7; have r8 : v3.cell? ⟨w.heap.size, 8, none⟩ = some (.slice C c.f2.length m) := blk_cell HX3.out 8; have r9 : v3.cell? ⟨w.heap.size, 9, none⟩ = some (.int .i64 d.f0) := blk_cell HX3.out 9; have r10 : v3.cell? ⟨w.heap.size, 10, none⟩ = some (.string d.f1) := blk_cell HX3.out 10; have r11 : v3.cell? ⟨w.heap.size, 11, none⟩ = some (.slice D d.f2.length n) := blk_cell HX3.out 11) | (go_at_call 43; (with_reducible refine (eval_is d HAK.out _ _ _ HEK.out D n _ (Kd.C_below HD.out.2.1 (HW3.out.alloc HW3.out.size _)) HD.out.1).mono ?_); rintro e v4 ⟨rfl, hb⟩; have HW4 := Aside0.mk (HW3.out.trans (((below1 _ _).trans (hb.mono (by simp))).mono HW3.out.size)); have HCK4 := Aside0.mk (Kd.C_below (Kd.C_below HCK3.out (below1 _ _)) hb); have HLL4 := Aside0.mk (blk_of (blk_alloc HLL3.out _) hb); clear hb; have t0 : v4.cell? ⟨K + 1, 0, none⟩ = some (.int .i64 4) := blk_cell HLL4.out 0; have t1 : v4.cell? ⟨K + 1, 1, none⟩ = some (.string ⟨#[]⟩) := blk_cell HLL4.out 1; have t2 : v4.cell? ⟨K + 1, 2, none⟩ = some (.slice (some ⟨K, 0, none⟩) 4 4) := blk_cell HLL4.out 2) | (go_at_call 43; (with_reducible refine (if_eval a b c d HALL.out _ _ _ HEX.out K _ HCK4.out).mono ?_); rintro e v5 ⟨rfl, hb⟩; have HW5 := Aside0.mk (HW4.out.trans (hb.mono HW4.out.size)); clear hb))
              go_ret
              exact ⟨rfl, HW5.out⟩
        · subst h1
          clear hg
          have q1 : (g2 == 0) = false := by simpa using h2
          have q2 : (g2 != 0) = true := by simpa using h2
          clear h2
          have HEA := Aside0.mk he1
          have HEB := Aside0.mk he2
          clear he1 he2
          go_wp2_with (first | (go_at_call 48; refine (if_good a b c d HALL.out true HG.out K _ HCK.out).mono ?_; rintro e v1 ⟨rfl, hb⟩; have HW1 := Aside0.mk (HW.out.trans (hb.mono HW.out.size)); have HCK1 := Aside0.mk (Kd.C_below HCK.out hb); have HLL1 := Aside0.mk (blk_of HLL.out hb); have HX1 := Aside0.mk (blk_of HXX.out hb); clear hb; have p0 : v1.cell? ⟨w.heap.size, 0, none⟩ = some (.int .i64 a.f0) := blk_cell HX1.out 0; have p1 : v1.cell? ⟨w.heap.size, 1, none⟩ = some (.string a.f1) := blk_cell HX1.out 1; have p2 : v1.cell? ⟨w.heap.size, 2, none⟩ = some (.slice A a.f2.length k) := blk_cell HX1.out 2) | (go_at_call 43; (with_reducible refine (eval_is a HAA.out _ _ _ HEA.out A k _ (Kd.C_below HA.out.2.1 HW1.out) HA.out.1).mono ?_); rintro e v2 ⟨rfl, hb⟩; have HW2 := Aside0.mk (HW1.out.trans (hb.mono HW1.out.size)); have HCK2 := Aside0.mk (Kd.C_below HCK1.out hb); have HLL2 := Aside0.mk (blk_of HLL1.out hb); have HX2 := Aside0.mk (blk_of HX1.out hb); clear hb; have q3 : v2.cell? ⟨w.heap.size, 3, none⟩ = some (.int .i64 b.f0) := blk_cell HX2.out 3; have q4 : v2.cell? ⟨w.heap.size, 4, none⟩ = some (.string b.f1) := blk_cell HX2.out 4; have q5 : v2.cell? ⟨w.heap.size, 5, none⟩ = some (.slice B b.f2.length l) := blk_cell HX2.out 5) | (go_at_call 43; (with_reducible refine (eval_is b HAB.out _ _ _ HEB.out B l _ (Kd.C_below HB'.out.2.1 HW2.out) HB'.out.1).mono ?_); rintro e v3 ⟨rfl, hb⟩; have HW3 := Aside0.mk (HW2.out.trans (hb.mono HW2.out.size)); have HCK3 := Aside0.mk (Kd.C_below HCK2.out hb); have HLL3 := Aside0.mk (blk_of HLL2.out hb); have HX3 := Aside0.mk (blk_of HX2.out hb); have hlx := blk_lt HX3.out; clear hb; have r6 : v3.cell? ⟨w.heap.size, 6, none⟩ = some (.int .i64 c.f0) := blk_cell HX3.out 6; have r7 : v3.cell? ⟨w.heap.size, 7, none⟩ = some (.string c.f1) := blk_cell HX3.out 7; have r8 : v3.cell? ⟨w.heap.size, 8, none⟩ = some (.slice C c.f2.length m) := blk_cell HX3.out 8; have r9 : v3.cell? ⟨w.heap.size, 9, none⟩ = some (.int .i64 d.f0) := blk_cell HX3.out 9; have r10 : v3.cell? ⟨w.heap.size, 10, none⟩ = some (.string d.f1) := blk_cell HX3.out 10; have r11 : v3.cell? ⟨w.heap.size, 11, none⟩ = some (.slice D d.f2.length n) := blk_cell HX3.out 11))
          go_ret
          exact ⟨rfl, HW3.out⟩
      · clear hg
        have q1 : (g1 == 0) = false := by simpa using h1
        have q2 : (g1 != 0) = true := by simpa using h1
        clear h1
        have HEA := Aside0.mk he1
        have HEB := Aside0.mk he2
        clear he1 he2
        go_wp2_with (first | (go_at_call 48; refine (if_good a b c d HALL.out true HG.out K _ HCK.out).mono ?_; rintro e v1 ⟨rfl, hb⟩; have HW1 := Aside0.mk (HW.out.trans (hb.mono HW.out.size)); have HCK1 := Aside0.mk (Kd.C_below HCK.out hb); have HLL1 := Aside0.mk (blk_of HLL.out hb); have HX1 := Aside0.mk (blk_of HXX.out hb); clear hb; have p0 : v1.cell? ⟨w.heap.size, 0, none⟩ = some (.int .i64 a.f0) := blk_cell HX1.out 0; have p1 : v1.cell? ⟨w.heap.size, 1, none⟩ = some (.string a.f1) := blk_cell HX1.out 1; have p2 : v1.cell? ⟨w.heap.size, 2, none⟩ = some (.slice A a.f2.length k) := blk_cell HX1.out 2) | (go_at_call 43; (with_reducible refine (eval_is a HAA.out _ _ _ HEA.out A k _ (Kd.C_below HA.out.2.1 HW1.out) HA.out.1).mono ?_); rintro e v2 ⟨rfl, hb⟩; have HW2 := Aside0.mk (HW1.out.trans (hb.mono HW1.out.size)); have HCK2 := Aside0.mk (Kd.C_below HCK1.out hb); have HLL2 := Aside0.mk (blk_of HLL1.out hb); have HX2 := Aside0.mk (blk_of HX1.out hb); clear hb; have q3 : v2.cell? ⟨w.heap.size, 3, none⟩ = some (.int .i64 b.f0) := blk_cell HX2.out 3; have q4 : v2.cell? ⟨w.heap.size, 4, none⟩ = some (.string b.f1) := blk_cell HX2.out 4; have q5 : v2.cell? ⟨w.heap.size, 5, none⟩ = some (.slice B b.f2.length l) := blk_cell HX2.out 5) | (go_at_call 43; (with_reducible refine (eval_is b HAB.out _ _ _ HEB.out B l _ (Kd.C_below HB'.out.2.1 HW2.out) HB'.out.1).mono ?_); rintro e v3 ⟨rfl, hb⟩; have HW3 := Aside0.mk (HW2.out.trans (hb.mono HW2.out.size)); have HCK3 := Aside0.mk (Kd.C_below HCK2.out hb); have HLL3 := Aside0.mk (blk_of HLL2.out hb); have HX3 := Aside0.mk (blk_of HX2.out hb); have hlx := blk_lt HX3.out; clear hb; have r6 : v3.cell? ⟨w.heap.size, 6, none⟩ = some (.int .i64 c.f0) := blk_cell HX3.out 6; have r7 : v3.cell? ⟨w.heap.size, 7, none⟩ = some (.string c.f1) := blk_cell HX3.out 7; have r8 : v3.cell? ⟨w.heap.size, 8, none⟩ = some (.slice C c.f2.length m) := blk_cell HX3.out 8; have r9 : v3.cell? ⟨w.heap.size, 9, none⟩ = some (.int .i64 d.f0) := blk_cell HX3.out 9; have r10 : v3.cell? ⟨w.heap.size, 10, none⟩ = some (.string d.f1) := blk_cell HX3.out 10; have r11 : v3.cell? ⟨w.heap.size, 11, none⟩ = some (.slice D d.f2.length n) := blk_cell HX3.out 11))
        go_ret
        exact ⟨rfl, HW3.out⟩
end Go.Proofs.YtijgifinhbbmaaaGreatDoor
