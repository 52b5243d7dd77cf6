/- EvalSums, walked. -/
import Derived.Test.YtijgifinhbbmaaaGreatDoorIf
set_option linter.unusedVariables false
set_option linter.unusedSimpArgs false
namespace Go.Proofs.YtijgifinhbbmaaaGreatDoor
open Go.RowKit Go.Shelf Go.Proofs.YtijgifinhbbmaaaGreatDoorW.PrintWords Go.Proofs.YtijgifinhbbmaaaGreatDoor.Q
theorem kid_at {w : World} {A : Option Addr} {ks : List Ex} (h : kEx.C w A ks.length ks) {j : Nat} (hj : j < ks.length) : ∃ ad A2 c2, A = some ad ∧ w.cell? (ad.add (j * 3)) = some (.int .i64 (ks[j]'hj).f0) ∧ w.cell? ⟨(ad.add (j * 3)).block, (ad.add (j * 3)).off + 1, none⟩ = some (.string (ks[j]'hj).f1) ∧
    w.cell? ⟨(ad.add (j * 3)).block, (ad.add (j * 3)).off + 2, none⟩ = some (.slice A2 (ks[j]'hj).f2.length c2) ∧ (ks[j]'hj).f2.length ≤ c2 ∧ kEx.C w A2 (ks[j]'hj).f2.length (ks[j]'hj).f2 := by
  have e : rd_T84 ks (j : Int) = ks[j] := by simp [rd_T84, List.getD_eq_getElem?_getD, List.getElem?_eq_getElem hj]
  obtain ⟨ad, A2, c2, h1, h2, h3, h4, h5, h6⟩ := at_T84 h (j : Int) (by omega) (by omega)
  rw [e] at h2 h3 h4 h5 h6
  simp only [Int.toNat_natCast] at h2 h3 h4
  exact ⟨ad, A2, c2, h1, h2, h3, h4, h5, h6⟩
theorem lit0 (W : World) (base : Nat) (hb : base ≤ W.heap.size) : Kd.N kEx 84 (W.alloc (.cells #[] 84)) base (fun _ => True) (.slice (some ⟨W.heap.size, 0, none⟩) 0 0) [] :=
  Kd.R_N ⟨fun _ _ => trivial, OwnRow.lit (ps := ([] : List Ex)) (inner := []) W base (Reps.none _ _) hb (by decide)⟩
theorem sum_good (ks : List Ex) (hx : AllS (sumX ks)) (q : Bool) (hb : goodB (sumX ks) = q) (B : Option Addr) (d : Nat) (w : World) (hC : kEx.C w B ks.length ks) (hd : ks.length ≤ d) :
    Calls Tryz.prog 48 #[.agg #[.int .i64 3, .string ⟨#[]⟩, .slice B ks.length d]] w fun e w' => e = .returned (.bool q) ∧ Below w.heap.size w w' := by
  subst hb
  exact good_any (sumX ks) hx B d w hC hd
theorem sum_eval (ks : List Ex) (hx : AllS (sumX ks)) (v : ByteArray) (n f : Int) (h : evalT (sumX ks) = (v, n, f)) (B : Option Addr) (d : Nat) (w : World) (hC : kEx.C w B ks.length ks) (hd : ks.length ≤ d) :
    Calls Tryz.prog 43 #[.agg #[.int .i64 3, .string ⟨#[]⟩, .slice B ks.length d]] w fun e w' => e = .returned (.tuple #[.string v, .int .i64 n, .int .i64 f]) ∧ Below w.heap.size w w' := by
  have := eval_any (sumX ks) hx B d w hC hd
  rw [h] at this
  exact this
theorem wvL_drop {ks : List Ex} {j : Nat} (hj : j < ks.length) {l : Int} (h0 : 0 ≤ l) : wvL (ks.drop j) l 0 = wvL (ks.drop (j + 1)) (wv (ks[j]'hj) l 0) 0 := by
  rw [List.drop_eq_getElem_cons hj, wvL, if_pos h0]
theorem freeCat_drop {ks : List Ex} {j : Nat} (hj : j < ks.length) {b : Int} {vs : List ByteArray} : freeCat (ks.drop j) [] b vs = freeCat (ks[j]'hj :: ks.drop (j + 1)) [] b vs := by
  rw [List.drop_eq_getElem_cons hj]
theorem joinV_add (vs : List ByteArray) (s : ByteArray) : joinV (vs ++ [s]) = joinV vs ++ s := by
  unfold joinV
  rw [join_flat, join_flat]
  apply ByteArray.ext
  simp [ByteArray.data_append]
set_option maxHeartbeats 4000000 in
set_option maxRecDepth 100000 in
theorem sums_calls (ks : List Ex) (A : Option Addr) (c : Nat) (w : World) (hC : kEx.C w A ks.length ks) (hc : ks.length ≤ c) (hWS : ∀ z ∈ ks, WS z) (hl : ks.length ≤ 140737488351232) (h5 : Has5 w) :
    Calls Tryz.prog 10 #[.slice A ks.length c] w fun e w' => e = .returned (.bool true) ∧ Below w.heap.size w w' := by
  have HC := Aside0.mk hC
  have HCC := Aside0.mk hc
  have HWS := Aside0.mk hWS
  have H5 := Aside0.mk h5
  clear hC hc hWS h5
  go_enter Tryz.func10, Tryz.ntmps10
  go_wp2_with (go_at_call 41; refine (saplinglaw13_alive.calls true _ H5.out rfl).mono ?_; rintro e u ⟨rfl, hb⟩; have HB := Aside0.mk hb; clear hb)
  go_loopw [3, 4] (fun lv iv wr => ∃ (j : Nat) (l : Int), j ≤ ks.length ∧ lv = .int .i64 l ∧ iv = .int .i64 j ∧ l ≤ 8192 ∧ Aside0 (wvL (ks.drop j) l 0 = wvL ks 8192 0) ∧ Aside0 (Below w.heap.size w wr)) (fun _ iv _ => ks.length - (intOf iv).toNat)
  case atStart => exact ⟨0, 8192, Nat.zero_le _, rfl, rfl, by decide, ⟨rfl⟩, HB⟩
  case round =>
    obtain ⟨j, l, hj, rfl, rfl, hl8, HL, HBr⟩ := hrel
    by_cases h0 : 0 ≤ l
    · by_cases hlt : j < ks.length
      · obtain ⟨L2, e2⟩ : ∃ L, wv (ks[j]'hlt) l 0 = L := ⟨_, rfl⟩
        have hle := wv_is (HWS.out _ (List.getElem_mem hlt)) e2 h0
        have HL2 : Aside0 (wvL (ks.drop (j + 1)) L2 0 = wvL ks 8192 0) := ⟨by rw [← HL.out, wvL_drop hlt h0, e2]⟩
        have E2 := Aside0.mk e2
        clear e2
        obtain ⟨ad, A2, c2, rfl, q0, q1, q2, hk2, hkC⟩ := kid_at (Kd.C_below HC.out HBr.out) hlt
        have HW1 := Aside0.mk (HWS.out _ (List.getElem_mem hlt))
        have HK2 := Aside0.mk hk2
        have HKC := Aside0.mk hkC
        clear hk2 hkC
        generalize ks[j]'hlt = x at *
        have hlt' : (j : Int) < (ks.length : Int) := by omega
        go_wp2_with (go_at_call 42; refine (weighs_is x HW1.out A2 c2 l L2 E2.out _ (by omega) (by omega) HKC.out HK2.out).mono ?_; rintro e u2 ⟨rfl, hb⟩; have HB2 := Aside0.mk (HBr.out.trans (hb.mono HBr.out.size)); clear hb)
        go_roundw
        case rel => exact ⟨j + 1, L2, by omega, rfl, by go_num, by omega, HL2, HB2⟩
        case measure => simp [intOf]; omega
      · obtain rfl : j = ks.length := by omega
        have hL : wvL ks 8192 0 = l := by have := HL.out; rw [List.drop_length] at this; simpa [wvL] using this.symm
        have hlen := (wvL_le ks (fun z hz => wv_le (HWS.out z hz)) 8192 0).2 (by rw [hL]; exact h0)
        have hall : ∀ z ∈ ks, AllS z := fun z hz => by
          obtain ⟨l', a, b, c⟩ := wvL_kids ks HWS.out 8192 0 (by decide) (by rw [hL]; exact h0) z hz
          exact allS_of_wv (HWS.out z hz) l' 0 a b c
        have hX : AllS (sumX ks) := .mk _ _ _ (by decide) (by rw [hL] at hlen; omega) hall
        have HX := Aside0.mk hX
        have HALL := Aside0.mk hall
        clear hX hall hL hlen HL hlt hj
        by_cases h2 : ks.length < 2
        · have h2' : (ks.length : Int) < 2 := by omega
          clear h2
          go_wp2
          all_goals go_ret
          all_goals exact ⟨rfl, HBr.out⟩
        · by_cases h20 : 20 < ks.length
          · have h2' : ¬ (ks.length : Int) < 2 := by omega
            have h20' : (20 : Int) < (ks.length : Int) := by omega
            clear h2 h20
            go_wp2
            all_goals go_ret
            all_goals exact ⟨rfl, HBr.out⟩
          · have h2' : ¬ (ks.length : Int) < 2 := by omega
            have h20' : ¬ (20 : Int) < (ks.length : Int) := by omega
            have hdl : decide (l < 0) = false := decide_eq_false (by omega)
            cases hg : goodB (sumX ks)
            · have HG := Aside0.mk hg
              clear hg
              go_wp2_with (first | (at_builtin; refine Kd.N_append_rows kEx (w0 := w) w.heap.size rfl (.tmp 46) (.tmp 47) 82 84 (.agg #[(.int .i64 0), (.string ⟨#[]⟩), (.slice none 0 0)]) 48 rfl Tryz.underlying82 info84 rfl (by decide) (by decide) (.slice (some ⟨wr.heap.size, 0, none⟩) 0 0) [] ks A ks.length c (fun _ => True) (fun k => k < wr.heap.size) rfl rfl (lit0 wr w.heap.size HBr.out.size) (Kd.F_alloc (Kd.C_F heapEx (Kd.C_below HC.out HBr.out)) _) (fun k hk => ⟨trivial, fun e => by simp [Value.ownBlock] at e; omega⟩) (fun _ _ => trivial) (HBr.out.alloc HBr.out.size _) (by have := HBr.out.size; simp; omega) (by simp; omega) ?_; intro v1 w1 hN hb hg hat; obtain ⟨B, d, rfl, hd, hF⟩ := Kd.N_V (base' := 0) hN; have HB1 := Aside0.mk hb; have HCB := Aside0.mk (show kEx.C w1 B ks.length ks from Kd.F_now hF); have HDB := Aside0.mk (show ks.length ≤ d from hd); clear hN hb hg hat hd hF; simp only [List.nil_append]) | (go_at_call 48; refine (sum_good ks HX.out false HG.out _ _ _ (Kd.C_below HCB.out (below1 _ _)) HDB.out).mono ?_; rintro e v2 ⟨rfl, hb⟩; have HB3 := Aside0.mk (HB1.out.trans (((below1 _ _).trans (hb.mono (by simp))).mono HB1.out.size)); have HLL := Aside0.mk (blk_of (heap_alloc_new w1 (.cells #[.int .i64 3, .string ⟨#[]⟩, .slice B ks.length d] 84)) hb); have HCB2 := Aside0.mk (Kd.C_below (Kd.C_below HCB.out (below1 _ _)) hb); clear hb; have p0 : v2.cell? ⟨w1.heap.size, 0, none⟩ = some (.int .i64 3) := blk_cell HLL.out 0; have p1 : v2.cell? ⟨w1.heap.size, 1, none⟩ = some (.string ⟨#[]⟩) := blk_cell HLL.out 1; have p2 : v2.cell? ⟨w1.heap.size, 2, none⟩ = some (.slice B ks.length d) := blk_cell HLL.out 2))
              go_ret
              exact ⟨rfl, HB3.out⟩
            · obtain ⟨sv, sn, se, hex⟩ : ∃ v n f, evalT (sumX ks) = (v, n, f) := ⟨_, _, _, rfl⟩
              have hGK : ∀ z ∈ ks, goodB z = true := fun z hz => good_kid HX.out hg hz
              have HGK := Aside0.mk hGK
              have HG := Aside0.mk hg
              have HEX := Aside0.mk hex
              clear hg hex hGK
              go_wp2_with (first | (at_builtin; refine Kd.N_append_rows kEx (w0 := w) w.heap.size rfl (.tmp 46) (.tmp 47) 82 84 (.agg #[(.int .i64 0), (.string ⟨#[]⟩), (.slice none 0 0)]) 48 rfl Tryz.underlying82 info84 rfl (by decide) (by decide) (.slice (some ⟨wr.heap.size, 0, none⟩) 0 0) [] ks A ks.length c (fun _ => True) (fun k => k < wr.heap.size) rfl rfl (lit0 wr w.heap.size HBr.out.size) (Kd.F_alloc (Kd.C_F heapEx (Kd.C_below HC.out HBr.out)) _) (fun k hk => ⟨trivial, fun e => by simp [Value.ownBlock] at e; omega⟩) (fun _ _ => trivial) (HBr.out.alloc HBr.out.size _) (by have := HBr.out.size; simp; omega) (by simp; omega) ?_; intro v1 w1 hN hb hg hat; obtain ⟨B, d, rfl, hd, hF⟩ := Kd.N_V (base' := 0) hN; have HB1 := Aside0.mk hb; have HCB := Aside0.mk (show kEx.C w1 B ks.length ks from Kd.F_now hF); have HDB := Aside0.mk (show ks.length ≤ d from hd); clear hN hb hg hat hd hF; simp only [List.nil_append]) | (go_at_call 48; refine (sum_good ks HX.out true HG.out _ _ _ (Kd.C_below HCB.out (below1 _ _)) HDB.out).mono ?_; rintro e v2 ⟨rfl, hb⟩; have HB3 := Aside0.mk (HB1.out.trans (((below1 _ _).trans (hb.mono (by simp))).mono HB1.out.size)); have HLL := Aside0.mk (blk_of (heap_alloc_new w1 (.cells #[.int .i64 3, .string ⟨#[]⟩, .slice B ks.length d] 84)) hb); have HCB2 := Aside0.mk (Kd.C_below (Kd.C_below HCB.out (below1 _ _)) hb); clear hb; have p0 : v2.cell? ⟨w1.heap.size, 0, none⟩ = some (.int .i64 3) := blk_cell HLL.out 0; have p1 : v2.cell? ⟨w1.heap.size, 1, none⟩ = some (.string ⟨#[]⟩) := blk_cell HLL.out 1; have p2 : v2.cell? ⟨w1.heap.size, 2, none⟩ = some (.slice B ks.length d) := blk_cell HLL.out 2) | (go_at_call 43; (with_reducible refine (sum_eval ks HX.out _ _ _ HEX.out _ _ _ HCB2.out HDB.out).mono ?_); rintro e v3 ⟨rfl, hb⟩; have HB4 := Aside0.mk (HB3.out.trans (hb.mono HB3.out.size)); clear hb))
              clear p0 p1 p2
              go_loopw [9, 10, 61] (fun wv bv iv wq => ∃ (j : Nat) (vs : List ByteArray) (b : Int), j ≤ ks.length ∧ wv = .string (joinV vs) ∧ bv = .int .i64 b ∧ iv = .int .i64 j ∧ 0 ≤ b ∧ b ≤ 1 + 1000 * (j : Int) ∧ (joinV vs).size ≤ 256 * j ∧ Aside0 (free (sumX ks) [] 0 = freeCat (ks.drop j) [] b vs) ∧ Aside0 (Below w.heap.size w wq)) (fun _ _ iv _ => ks.length - (intOf iv).toNat)
              case atStart => exact ⟨0, [], 1, Nat.zero_le _, rfl, rfl, rfl, by decide, by decide, by decide, ⟨sum_start ks⟩, HB4⟩
              case round =>
                obtain ⟨j, vs, b, hj, rfl, rfl, rfl, hb0, hb1, hsz, HF, HBq⟩ := hrel
                by_cases hlt : j < ks.length
                · obtain ⟨v, n, f, hev⟩ : ∃ v n f, evalT (ks[j]'hlt) = (v, n, f) := ⟨_, _, _, rfl⟩
                  have hxa := HALL.out _ (List.getElem_mem hlt)
                  have hxg := HGK.out _ (List.getElem_mem hlt)
                  have hfit := evalT_fit hxa
                  rw [hev] at hfit
                  simp only at hfit
                  obtain ⟨n0, n1, n2⟩ := hfit
                  have hF := HF.out
                  rw [freeCat_drop hlt] at hF
                  have hstep : f = 0 → free (sumX ks) [] 0 = freeCat (ks.drop (j + 1)) [] (b + n) (vs ++ [v]) := fun h => by
                    have := sum_step hxa hxg hF (by rw [hev]; exact h)
                    rw [hev] at this; exact this
                  have hfail : f ≠ 0 → se ≠ 0 := fun h => by
                    have := sum_fail HX.out HG.out hxa hxg (fun y hy => shape_of_good (HALL.out y (List.mem_of_mem_drop hy)) (HGK.out y (List.mem_of_mem_drop hy))) hb0 hF (by rw [hev]; exact h)
                    rw [HEX.out] at this; exact this
                  obtain ⟨ad, A2, c2, rfl, q0, q1, q2, hk2, hkC⟩ := kid_at (Kd.C_below HC.out HBq.out) hlt
                  have HXA := Aside0.mk hxa
                  have HEV := Aside0.mk hev
                  have HK2 := Aside0.mk hk2
                  have HKC := Aside0.mk hkC
                  clear hxa hxg hev hk2 hkC hF HF
                  generalize ks[j]'hlt = x at *
                  have hlt' : (j : Int) < (ks.length : Int) := by omega
                  by_cases hf : f = 0
                  · have HN := Aside0.mk (hstep hf)
                    clear hstep hfail
                    subst hf
                    go_wp2_with (go_at_call 43; refine (eval_is x HXA.out _ _ _ HEV.out A2 c2 _ (Kd.C_below HKC.out (below1 _ _)) HK2.out).mono ?_; rintro e v4 ⟨rfl, hb⟩; have HB5 := Aside0.mk (HBq.out.trans (((below1 _ _).trans (hb.mono (by simp))).mono HBq.out.size)); clear hb)
                    go_roundw
                    case rel => exact ⟨j + 1, vs ++ [v], b + n, by omega, by rw [joinV_add], rfl, by go_num, by omega, by omega, by rw [joinV_add, ByteArray.size_append]; omega, HN, HB5⟩
                    case measure => simp [intOf]; omega
                  · have hse := hfail hf
                    clear hstep hfail
                    have t1 : (f == 0) = false := by simpa using hf
                    have t2 : (f != 0) = true := by simpa using hf
                    have t3 : (se == 0) = false := by simpa using hse
                    have t4 : (se != 0) = true := by simpa using hse
                    clear hf hse
                    go_wp2_with (go_at_call 43; refine (eval_is x HXA.out _ _ _ HEV.out A2 c2 _ (Kd.C_below HKC.out (below1 _ _)) HK2.out).mono ?_; rintro e v4 ⟨rfl, hb⟩; have HB5 := Aside0.mk (HBq.out.trans (((below1 _ _).trans (hb.mono (by simp))).mono HBq.out.size)); clear hb)
                    go_ret
                    exact ⟨rfl, HB5.out⟩
                · obtain rfl : j = ks.length := by omega
                  have hF := HF.out
                  rw [List.drop_length] at hF
                  obtain ⟨k1, k2, k3⟩ := sum_end HX.out HG.out hF
                  rw [HEX.out] at k1 k2 k3
                  simp only at k1 k2
                  clear hF HF
                  by_cases c1 : 1000 < b
                  · have t1 : (se == 52) = true := by simpa using k1 c1
                    clear k1 k2 k3 hlt
                    go_wp2
                    go_ret
                    exact ⟨rfl, HBq.out⟩
                  · by_cases c2 : 256 < (joinV vs).size
                    · obtain ⟨m1, m2⟩ := k2 c1 c2
                      have t1 : (se == 43) = true := by simpa using m1
                      have t2 : (sn == b) = true := by simpa using m2
                      have c2' : (256 : Int) < ((joinV vs).size : Int) := by omega
                      clear k1 k2 k3 hlt m1 m2
                      go_wp2
                      go_ret
                      exact ⟨rfl, HBq.out⟩
                    · have m := k3 c1 c2
                      simp only [Prod.mk.injEq] at m
                      obtain ⟨m1, m2, m3⟩ := m
                      have t1 : (se == 0) = true := by simpa using m3
                      have t2 : (sn == b) = true := by simpa using m2
                      have t3 : (sv.toList == (joinV vs).toList) = true := by rw [m1]; simp
                      have c2' : ¬ (256 : Int) < ((joinV vs).size : Int) := by omega
                      clear k1 k2 k3 hlt m1 m2 m3
                      go_wp2
                      go_ret
                      exact ⟨rfl, HBq.out⟩
    · go_wp2
      all_goals go_ret
      all_goals exact ⟨rfl, HBr.out⟩
end Go.Proofs.YtijgifinhbbmaaaGreatDoor
