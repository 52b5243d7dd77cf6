/- EvalLets, walked. -/
import Derived.Test.YtijgifinhbbmaaaGreatDoorFl
import Derived.Test.YtijgifinhbbmaaaGreatDoorRX
import Derived.Deep.RegionWith
import Derived.Deep.DeepCutAuto
set_option linter.unusedVariables false
set_option linter.unusedSimpArgs false
namespace Go.Proofs.YtijgifinhbbmaaaGreatDoor
open Go.RowKit Go.Shelf Go.Proofs.YtijgifinhbbmaaaGreatDoorW.PrintWords Go.Proofs.YtijgifinhbbmaaaGreatDoor.Q
theorem heapEx : Kd.Heap kEx := Kd.heap_fix (fun d hd => Kd.heap_iso _ (Kd.heap_pair (Kd.heap_int _) (Kd.heap_pair Kd.heap_string (Kd.heap_slice _ hd))))
theorem weighs_any (x : Ex) (hx : WS x) (A : Option Addr) (c : Nat) (left : Int) (w : World) (h1 : -200 ≤ left) (h2 : left ≤ 16384) (hC : kEx.C w A x.f2.length x.f2) (hc : x.f2.length ≤ c) :
    Calls Tryz.prog 42 #[.agg #[.int .i64 x.f0, .string x.f1, .slice A x.f2.length c], .int .i64 left, .int .i64 0] w fun e w' => e = .returned (.int .i64 (wv x left 0)) ∧ Below w.heap.size w w' := by
  obtain ⟨k, hk⟩ := (ev_w hx left 0 (by decide) (by decide) h1 h2).rounds
  exact saplinglaw13_weighs.calls k x.f0 x.f1 A c x.f2 left 0 _ w hC hc hk
theorem good_any (x : Ex) (hx : AllS x) (A : Option Addr) (c : Nat) (w : World) (hC : kEx.C w A x.f2.length x.f2) (hc : x.f2.length ≤ c) :
    Calls Tryz.prog 48 #[.agg #[.int .i64 x.f0, .string x.f1, .slice A x.f2.length c]] w fun e w' => e = .returned (.bool (goodB x)) ∧ Below w.heap.size w w' := by
  obtain ⟨k, hk⟩ := ev_good hx
  exact recipe_Good.calls k x.f0 x.f1 A c x.f2 _ w hC hc hk
theorem eval_any (x : Ex) (hx : AllS x) (A : Option Addr) (c : Nat) (w : World) (hC : kEx.C w A x.f2.length x.f2) (hc : x.f2.length ≤ c) :
    Calls Tryz.prog 43 #[.agg #[.int .i64 x.f0, .string x.f1, .slice A x.f2.length c]] w fun e w' => e = .returned (.tuple #[.string (evalT x).1, .int .i64 (evalT x).2.1, .int .i64 (evalT x).2.2]) ∧ Below w.heap.size w w' :=
  eval_Eval.calls x.f0 x.f1 A c x.f2 _ _ _ w hC hc (eval_f hx)
theorem put_any (x : Ex) (hx : AllS x) (name s : ByteArray) (A : Option Addr) (c : Nat) (w : World) (hC : kEx.C w A x.f2.length x.f2) (hc : x.f2.length ≤ c) :
    Calls Tryz.prog 50 #[.agg #[.int .i64 x.f0, .string x.f1, .slice A x.f2.length c], .string name, .string s] w fun e w' => ∃ (B : Option Addr) (d : Nat), e = .returned (.agg #[.int .i64 (putS x name s).f0, .string (putS x name s).f1, .slice B (putS x name s).f2.length d]) ∧
      (putS x name s).f2.length ≤ d ∧ kEx.C w' B (putS x name s).f2.length (putS x name s).f2 ∧ Below w.heap.size w w' := by
  obtain ⟨k, hk⟩ := (ev_put hx name s).rounds
  refine (saplinglaw13_put.calls k x.f0 x.f1 (fun k => k < w.heap.size) A c x.f2 name s _ _ _ w (Kd.V_mk hc (Kd.C_F heapEx hC)) hk).mono ?_
  rintro e w' ⟨v, rfl, hN, hb⟩
  obtain ⟨B, d, rfl, hl, hF⟩ := Kd.N_V (base' := 0) hN
  exact ⟨B, d, rfl, hl, Kd.F_now hF, hb⟩
theorem blk_of {W U : World} {b : Nat} {o : Obj} (h : W.heap[b]? = some o) (hb : Below W.heap.size W U) : U.heap[b]? = some o := (hb.block b (Array.getElem?_eq_some_iff.1 h).1).trans h
theorem two_new (v : World) (o1 o2 : Obj) : ((v.alloc o1).alloc o2).heap[v.heap.size]? = some o1 ∧ ((v.alloc o1).alloc o2).heap[v.heap.size + 1]? = some o2 := by
  refine ⟨?_, ?_⟩
  · rw [Below.heap_alloc _ _ _ (by simp), heap_alloc_new]
  · simpa using heap_alloc_new (v.alloc o1) o2
theorem two_old {v : World} {b : Nat} {o : Obj} (h : v.heap[b]? = some o) (o1 o2 : Obj) : ((v.alloc o1).alloc o2).heap[b]? = some o := blk_alloc (blk_alloc h o1) o2
theorem set3 {v : World} {b : Nat} {a0 a1 a2 : Value} {t : TypeId} (h : v.heap[b]? = some (.cells #[a0, a1, a2] t (0, 0))) (x0 x1 x2 : Value) :
    (((v.setCell ⟨b, 0, none⟩ x0).setCell ⟨b, 1, none⟩ x1).setCell ⟨b, 2, none⟩ x2).heap[b]? = some (.cells #[x0, x1, x2] t (0, 0)) := by
  have := blk_set (blk_set (blk_set h 0 x0) 1 x1) 2 x2
  simpa using this
theorem set3_far {v : World} {b n : Nat} {o : Obj} (h : v.heap[n]? = some o) (hne : n ≠ b) (x0 x1 x2 : Value) :
    (((v.setCell ⟨b, 0, none⟩ x0).setCell ⟨b, 1, none⟩ x1).setCell ⟨b, 2, none⟩ x2).heap[n]? = some o := by
  rw [Below.heap_setCell _ _ _ _ hne, Below.heap_setCell _ _ _ _ hne, Below.heap_setCell _ _ _ _ hne]; exact h
theorem letX_ws {name s : ByteArray} {x : Ex} (hx : WS x) (hn : name.size ≤ 140737488355328) (hs : s.size ≤ 140737488355328) : WS (letX name s x) := .mk _ _ _ hn (by simp) (by
  intro y hy
  rcases List.mem_cons.1 hy with rfl | hy
  · exact .mk _ _ _ hs (by decide) (by simp)
  · obtain rfl := List.mem_singleton.1 hy; exact hx)
theorem let_weighs (name s : ByteArray) (x : Ex) (hx : WS (letX name s x)) (K : Nat) (w : World) (hC : kEx.C w (some ⟨K, 0, none⟩) 2 [tx s, x]) :
    Calls Tryz.prog 42 #[.agg #[.int .i64 5, .string name, .slice (some ⟨K, 0, none⟩) 2 2], .int .i64 4096, .int .i64 0] w fun e w' => e = .returned (.int .i64 (wv (letX name s x) 4096 0)) ∧ Below w.heap.size w w' :=
  weighs_any (letX name s x) hx (some ⟨K, 0, none⟩) 2 4096 w (by decide) (by decide) hC (Nat.le_refl 2)
theorem let_good (name s : ByteArray) (x : Ex) (hx : AllS (letX name s x)) (b : Bool) (hb : goodB (letX name s x) = b) (K : Nat) (w : World) (hC : kEx.C w (some ⟨K, 0, none⟩) 2 [tx s, x]) :
    Calls Tryz.prog 48 #[.agg #[.int .i64 5, .string name, .slice (some ⟨K, 0, none⟩) 2 2]] w fun e w' => e = .returned (.bool b) ∧ Below w.heap.size w w' := by
  subst hb
  exact good_any (letX name s x) hx (some ⟨K, 0, none⟩) 2 w hC (Nat.le_refl 2)
theorem let_eval (name s : ByteArray) (x : Ex) (hx : AllS (letX name s x)) (v : ByteArray) (n f : Int) (h : evalT (letX name s x) = (v, n, f)) (K : Nat) (w : World) (hC : kEx.C w (some ⟨K, 0, none⟩) 2 [tx s, x]) :
    Calls Tryz.prog 43 #[.agg #[.int .i64 5, .string name, .slice (some ⟨K, 0, none⟩) 2 2]] w fun e w' => e = .returned (.tuple #[.string v, .int .i64 n, .int .i64 f]) ∧ Below w.heap.size w w' := by
  have := eval_any (letX name s x) hx (some ⟨K, 0, none⟩) 2 w hC (Nat.le_refl 2)
  rw [h] at this
  exact this
theorem eval_is (x : Ex) (hx : AllS x) (v : ByteArray) (n f : Int) (h : evalT x = (v, n, f)) (A : Option Addr) (c : Nat) (w : World) (hC : kEx.C w A x.f2.length x.f2) (hc : x.f2.length ≤ c) :
    Calls Tryz.prog 43 #[.agg #[.int .i64 x.f0, .string x.f1, .slice A x.f2.length c]] w fun e w' => e = .returned (.tuple #[.string v, .int .i64 n, .int .i64 f]) ∧ Below w.heap.size w w' := by
  have := eval_any x hx A c w hC hc
  rw [h] at this
  exact this
set_option maxHeartbeats 2000000 in
set_option maxRecDepth 100000 in
theorem lets_calls (name s : ByteArray) (x : Ex) (A : Option Addr) (c : Nat) (w : World) (hx : WS x) (hn : name.size ≤ 140737488355328) (hs : s.size ≤ 140737488355328) (hC : kEx.C w A x.f2.length x.f2) (hc : x.f2.length ≤ c) (h5 : Has5 w) :
    Calls Tryz.prog 11 #[.string name, .string s, .agg #[.int .i64 x.f0, .string x.f1, .slice A x.f2.length c]] w fun e w' => e = .returned (.bool true) ∧ Below w.heap.size w w' := by
  have HC := Aside0.mk hC
  have HCC := Aside0.mk hc
  have HX := Aside0.mk (letX_ws hx hn hs)
  have H5 := Aside0.mk (h5.below (below1 w (.cells #[.int .i64 x.f0, .string x.f1, .slice A x.f2.length c] 84)))
  have HS := Aside0.mk hs
  clear hC hc hx hn hs h5
  go_enter Tryz.func11, Tryz.ntmps11
  go_upto_region 3 with (go_at_call 41; refine (saplinglaw13_alive.calls true _ H5.out rfl).mono ?_; rintro e u ⟨rfl, hb⟩; have hbx := blk_of (heap_alloc_new w _) hb; have HB := Aside0.mk ((below1 w _).trans (hb.mono (by simp))); have hl := blk_lt hbx; clear hb; have d0 : u.cell? ⟨w.heap.size, 0, none⟩ = some (.int .i64 x.f0) := blk_cell hbx 0; have d1 : u.cell? ⟨w.heap.size, 1, none⟩ = some (.string x.f1) := blk_cell hbx 1; have d2 : u.cell? ⟨w.heap.size, 2, none⟩ = some (.slice A x.f2.length c) := blk_cell hbx 2; have HBX := Aside0.mk hbx; clear hbx)
  go_cut [7] (fun s7 wx => ∃ L K : Nat, s7 = .pointer (some ⟨L, 0, none⟩) ∧ Aside0 (wx.heap[L]? = some (.cells #[.int .i64 5, .string name, .slice (some ⟨K, 0, none⟩) 2 2] 84 (0, 0))) ∧ Aside0 (wx.heap[K]? = some (.cells #[.int .i64 1, .string s, .slice none 0 0, .int .i64 x.f0, .string x.f1, .slice A x.f2.length c] 84 (0, 0))) ∧ Aside0 (wx.heap[w.heap.size]? = some (.cells #[.int .i64 x.f0, .string x.f1, .slice A x.f2.length c] 84 (0, 0))) ∧ Aside0 (Below w.heap.size w wx))
  case first =>
    go_region_with (first
      | (go_at_call 49; refine (ltext_calls _ _).mono ?_; rintro e v ⟨rfl, hb0⟩; have hb : Below u.heap.size u v := ((Below.refl _ u).drew).trans hb0; clear hb0; have hbx := blk_of HBX.out hb; have HN := Aside0.mk (HB.out.trans (hb.mono HB.out.size)); clear HB HBX d0 d1 d2; have HB := HN; clear HN; have hl2 := blk_lt hbx; clear hb; have d0 : v.cell? ⟨w.heap.size, 0, none⟩ = some (.int .i64 x.f0) := blk_cell hbx 0; have d1 : v.cell? ⟨w.heap.size, 1, none⟩ = some (.string x.f1) := blk_cell hbx 1; have d2 : v.cell? ⟨w.heap.size, 2, none⟩ = some (.slice A x.f2.length c) := blk_cell hbx 2; have HBX := Aside0.mk hbx; clear hbx)
      | (go_at_call 49; refine (ltext_calls _ _).mono ?_; rintro e v ⟨rfl, hb0⟩; have hn := blk_of (heap_alloc_new u (.cells #[.int .i64 0, .string ⟨#[]⟩, .slice none 0 0] 84)) (((Below.refl _ (u.alloc (.cells #[.int .i64 0, .string ⟨#[]⟩, .slice none 0 0] 84))).drew).trans hb0); have hb : Below u.heap.size u v := ((below1 u _).drew).trans (hb0.mono (by simp)); clear hb0; have hbx := blk_of HBX.out hb; have HN := Aside0.mk (HB.out.trans (hb.mono HB.out.size)); clear HB HBX d0 d1 d2; have HB := HN; clear HN; have hl2 := blk_lt hbx; have hl3 := blk_lt hn; clear hb; have d0 : v.cell? ⟨w.heap.size, 0, none⟩ = some (.int .i64 x.f0) := blk_cell hbx 0; have d1 : v.cell? ⟨w.heap.size, 1, none⟩ = some (.string x.f1) := blk_cell hbx 1; have d2 : v.cell? ⟨w.heap.size, 2, none⟩ = some (.slice A x.f2.length c) := blk_cell hbx 2; have e0 : v.cell? ⟨u.heap.size, 0, none⟩ = some (.int .i64 0) := blk_cell hn 0; have e1 : v.cell? ⟨u.heap.size, 1, none⟩ = some (.string ⟨#[]⟩) := blk_cell hn 1; have e2 : v.cell? ⟨u.heap.size, 2, none⟩ = some (.slice none 0 0) := blk_cell hn 2; have g0 : v.frozen? ⟨u.heap.size, 0, none⟩ = false := free_blk hn; have g1 : v.frozen? ⟨u.heap.size, 1, none⟩ = false := free_blk hn; have g2 : v.frozen? ⟨u.heap.size, 2, none⟩ = false := free_blk hn; have HN := Aside0.mk hn; have HBX := Aside0.mk hbx; clear hbx hn))
    all_goals (go_wp2_with fail; go_meet)
    all_goals first
      | exact ⟨_, _, rfl, ⟨(two_new v _ _).2⟩, ⟨(two_new v _ _).1⟩, ⟨two_old HBX.out _ _⟩, ⟨(HB.out.alloc HB.out.size _).alloc (by have := HB.out.size; simp; omega) _⟩⟩
      | exact ⟨_, _, rfl, ⟨(two_new v _ _).1⟩, ⟨(two_new v _ _).2⟩, ⟨two_old HBX.out _ _⟩, ⟨(HB.out.alloc HB.out.size _).alloc (by have := HB.out.size; simp; omega) _⟩⟩
      | exact ⟨_, _, rfl, ⟨blk_alloc (set3 HN.out _ _ _) _⟩, ⟨by simpa using heap_alloc_new (((v.setCell ⟨u.heap.size, 0, none⟩ (.int .i64 5)).setCell ⟨u.heap.size, 1, none⟩ (.string name)).setCell ⟨u.heap.size, 2, none⟩ (.slice (some ⟨v.heap.size, 0, none⟩) 2 2)) _⟩, ⟨blk_alloc (set3_far HBX.out (by omega) _ _ _) _⟩, ⟨(((HB.out.setCell (p := ⟨u.heap.size, 0, none⟩) (by simp; omega) _).setCell (p := ⟨u.heap.size, 1, none⟩) (by simp; omega) _).setCell (p := ⟨u.heap.size, 2, none⟩) (by simp; omega) _).alloc (by have := HB.out.size; simp; omega) _⟩⟩
  case rest =>
    obtain ⟨L, K, rfl, HL, HK, HBX, HB⟩ := hcut
    have HC2 : Aside0 (kEx.C wc (some ⟨K, 0, none⟩) 2 [tx s, x]) := ⟨C_rows HK.out [tx s, x] (by simp) (fun j y hj => by
      match j, hj with
      | 0, hj => cases hj; exact ⟨none, 0, Nat.le_refl _, C_nil _ _, rfl, rfl, rfl⟩
      | 1, hj => cases hj; exact ⟨A, c, HCC.out, Kd.C_below HC.out HB.out, rfl, rfl, rfl⟩)⟩
    have hlL := blk_lt HL.out
    have hlN := blk_lt HBX.out
    have l0 : wc.cell? ⟨L, 0, none⟩ = some (.int .i64 5) := blk_cell HL.out 0
    have l1 : wc.cell? ⟨L, 1, none⟩ = some (.string name) := blk_cell HL.out 1
    have l2 : wc.cell? ⟨L, 2, none⟩ = some (.slice (some ⟨K, 0, none⟩) 2 2) := blk_cell HL.out 2
    by_cases hw : wv (letX name s x) 4096 0 < 0
    · go_wp2_with (go_at_call 42; refine (let_weighs name s x HX.out K _ HC2.out).mono ?_; rintro e u ⟨rfl, hb⟩; have HB1 := Aside0.mk (HB.out.trans (hb.mono HB.out.size)); clear hb)
      go_ret
      exact ⟨rfl, HB1.out⟩
    · have HA := Aside0.mk (allS_of_wv HX.out 4096 0 (by decide) (by decide) (by omega))
      cases hg : goodB (letX name s x)
      · have HG := Aside0.mk hg
        clear hg
        go_wp2_with (first
          | (go_at_call 42; refine (let_weighs name s x HX.out K _ HC2.out).mono ?_; rintro e u ⟨rfl, hb⟩; have HB1 := Aside0.mk (HB.out.trans (hb.mono HB.out.size)); have HC3 := Aside0.mk (Kd.C_below HC2.out hb); obtain ⟨hc1, hf1⟩ := bcell hb; have HB2 := Aside0.mk hb; clear hb)
          | (go_at_call 48; refine (let_good name s x HA.out false HG.out K _ HC3.out).mono ?_; rintro e u2 ⟨rfl, hb⟩; have HB4 := Aside0.mk (HB1.out.trans (hb.mono HB1.out.size)); clear hb))
        go_ret
        exact ⟨rfl, HB4.out⟩
      · by_cases hs : 256 < s.size
        · have HG := Aside0.mk hg
          clear hg
          go_wp2_with (first
            | (go_at_call 42; refine (let_weighs name s x HX.out K _ HC2.out).mono ?_; rintro e u ⟨rfl, hb⟩; have HB1 := Aside0.mk (HB.out.trans (hb.mono HB.out.size)); have HC3 := Aside0.mk (Kd.C_below HC2.out hb); obtain ⟨hc1, hf1⟩ := bcell hb; have HB2 := Aside0.mk hb; clear hb)
            | (go_at_call 48; refine (let_good name s x HA.out true HG.out K _ HC3.out).mono ?_; rintro e u2 ⟨rfl, hb⟩; have HB4 := Aside0.mk (HB1.out.trans (hb.mono HB1.out.size)); clear hb))
          go_ret
          exact ⟨rfl, HB4.out⟩
        · obtain ⟨hp, h52, hno⟩ := lets_law HA.out hg (by omega)
          have hxa : AllS x := by cases HA.out with | mk _ _ _ a1 a2 a3 => exact a3 x (by simp)
          have hfit := evalT_fit hp
          have HG := Aside0.mk hg
          have HP := Aside0.mk hp
          have HXA := Aside0.mk hxa
          clear hg hp hxa
          obtain ⟨v1, n1, f1, he1⟩ : ∃ v n f, evalT (letX name s x) = (v, n, f) := ⟨_, _, _, rfl⟩
          obtain ⟨v2, n2, f2, he2⟩ : ∃ v n f, evalT (putS x name s) = (v, n, f) := ⟨_, _, _, rfl⟩
          rw [he1, he2] at h52 hno
          rw [he2] at hfit
          have HE1 := Aside0.mk he1
          have HE2 := Aside0.mk he2
          clear he1 he2
          simp only at h52 hno hfit
          obtain ⟨b0, b1, _⟩ := hfit
          by_cases hf1 : f1 = 52
          · have hge := h52 (.inl hf1)
            clear h52 hno
            subst hf1
            go_wp2_with (first
              | (go_at_call 42; refine (let_weighs name s x HX.out K _ HC2.out).mono ?_; rintro e u ⟨rfl, hb⟩; have HB1 := Aside0.mk (HB.out.trans (hb.mono HB.out.size)); have HC3 := Aside0.mk (Kd.C_below HC2.out hb); have HL1 := Aside0.mk (blk_of HL.out hb); have HBX1 := Aside0.mk (blk_of HBX.out hb); clear hb; have m0 : u.cell? ⟨L, 0, none⟩ = some (.int .i64 5) := blk_cell HL1.out 0; have m1 : u.cell? ⟨L, 1, none⟩ = some (.string name) := blk_cell HL1.out 1; have m2 : u.cell? ⟨L, 2, none⟩ = some (.slice (some ⟨K, 0, none⟩) 2 2) := blk_cell HL1.out 2)
              | (go_at_call 48; refine (let_good name s x HA.out true HG.out K _ HC3.out).mono ?_; rintro e u2 ⟨rfl, hb⟩; have HB4 := Aside0.mk (HB1.out.trans (hb.mono HB1.out.size)); have HC4 := Aside0.mk (Kd.C_below HC3.out hb); have HL2 := Aside0.mk (blk_of HL1.out hb); have HBX2 := Aside0.mk (blk_of HBX1.out hb); clear hb; have p0 : u2.cell? ⟨L, 0, none⟩ = some (.int .i64 5) := blk_cell HL2.out 0; have p1 : u2.cell? ⟨L, 1, none⟩ = some (.string name) := blk_cell HL2.out 1; have p2 : u2.cell? ⟨L, 2, none⟩ = some (.slice (some ⟨K, 0, none⟩) 2 2) := blk_cell HL2.out 2)
              | (go_at_call 43; (with_reducible refine (let_eval name s x HA.out _ _ _ HE1.out K _ HC4.out).mono ?_); rintro e u3 ⟨rfl, hb⟩; have HB5 := Aside0.mk (HB4.out.trans (hb.mono HB4.out.size)); have HC5 := Aside0.mk (Kd.C_below HC.out HB5.out); have HBX3 := Aside0.mk (blk_of HBX2.out hb); clear hb; have q0 : u3.cell? ⟨w.heap.size, 0, none⟩ = some (.int .i64 x.f0) := blk_cell HBX3.out 0; have q1 : u3.cell? ⟨w.heap.size, 1, none⟩ = some (.string x.f1) := blk_cell HBX3.out 1; have q2 : u3.cell? ⟨w.heap.size, 2, none⟩ = some (.slice A x.f2.length c) := blk_cell HBX3.out 2)
              | (go_at_call 50; refine (put_any x HXA.out name s A c _ HC5.out HCC.out).mono ?_; rintro e u4 ⟨B, d, rfl, hd, hCp, hb⟩; have HD := Aside0.mk hd; have HCP := Aside0.mk hCp; have HB6 := Aside0.mk (HB5.out.trans (hb.mono HB5.out.size)); clear hd hCp hb)
              | (go_at_call 43; (with_reducible refine (eval_is (putS x name s) HP.out _ _ _ HE2.out _ _ _ HCP.out HD.out).mono ?_); rintro e u5 ⟨rfl, hb⟩; have HB7 := Aside0.mk (HB6.out.trans (hb.mono HB6.out.size)); clear hb))
            go_ret
            exact ⟨rfl, HB7.out⟩
          · by_cases hf2 : f2 = 52
            · have hge := h52 (.inr hf2)
              clear h52 hno
              subst hf2
              have hb1 : (f1 == 52) = false := by simpa using hf1
              clear hf1
              go_wp2_with (first
              | (go_at_call 42; refine (let_weighs name s x HX.out K _ HC2.out).mono ?_; rintro e u ⟨rfl, hb⟩; have HB1 := Aside0.mk (HB.out.trans (hb.mono HB.out.size)); have HC3 := Aside0.mk (Kd.C_below HC2.out hb); have HL1 := Aside0.mk (blk_of HL.out hb); have HBX1 := Aside0.mk (blk_of HBX.out hb); clear hb; have m0 : u.cell? ⟨L, 0, none⟩ = some (.int .i64 5) := blk_cell HL1.out 0; have m1 : u.cell? ⟨L, 1, none⟩ = some (.string name) := blk_cell HL1.out 1; have m2 : u.cell? ⟨L, 2, none⟩ = some (.slice (some ⟨K, 0, none⟩) 2 2) := blk_cell HL1.out 2)
              | (go_at_call 48; refine (let_good name s x HA.out true HG.out K _ HC3.out).mono ?_; rintro e u2 ⟨rfl, hb⟩; have HB4 := Aside0.mk (HB1.out.trans (hb.mono HB1.out.size)); have HC4 := Aside0.mk (Kd.C_below HC3.out hb); have HL2 := Aside0.mk (blk_of HL1.out hb); have HBX2 := Aside0.mk (blk_of HBX1.out hb); clear hb; have p0 : u2.cell? ⟨L, 0, none⟩ = some (.int .i64 5) := blk_cell HL2.out 0; have p1 : u2.cell? ⟨L, 1, none⟩ = some (.string name) := blk_cell HL2.out 1; have p2 : u2.cell? ⟨L, 2, none⟩ = some (.slice (some ⟨K, 0, none⟩) 2 2) := blk_cell HL2.out 2)
              | (go_at_call 43; (with_reducible refine (let_eval name s x HA.out _ _ _ HE1.out K _ HC4.out).mono ?_); rintro e u3 ⟨rfl, hb⟩; have HB5 := Aside0.mk (HB4.out.trans (hb.mono HB4.out.size)); have HC5 := Aside0.mk (Kd.C_below HC.out HB5.out); have HBX3 := Aside0.mk (blk_of HBX2.out hb); clear hb; have q0 : u3.cell? ⟨w.heap.size, 0, none⟩ = some (.int .i64 x.f0) := blk_cell HBX3.out 0; have q1 : u3.cell? ⟨w.heap.size, 1, none⟩ = some (.string x.f1) := blk_cell HBX3.out 1; have q2 : u3.cell? ⟨w.heap.size, 2, none⟩ = some (.slice A x.f2.length c) := blk_cell HBX3.out 2)
              | (go_at_call 50; refine (put_any x HXA.out name s A c _ HC5.out HCC.out).mono ?_; rintro e u4 ⟨B, d, rfl, hd, hCp, hb⟩; have HD := Aside0.mk hd; have HCP := Aside0.mk hCp; have HB6 := Aside0.mk (HB5.out.trans (hb.mono HB5.out.size)); clear hd hCp hb)
              | (go_at_call 43; (with_reducible refine (eval_is (putS x name s) HP.out _ _ _ HE2.out _ _ _ HCP.out HD.out).mono ?_); rintro e u5 ⟨rfl, hb⟩; have HB7 := Aside0.mk (HB6.out.trans (hb.mono HB6.out.size)); clear hb))
              go_ret
              exact ⟨rfl, HB7.out⟩
            · obtain ⟨g1, g2, g3⟩ := hno (fun h => h.elim hf1 hf2)
              clear h52 hno
              subst g1 g2 g3
              have hb1 : (f1 == 52) = false := by simpa using hf1
              clear hf1 hf2
              go_wp2_with (first
              | (go_at_call 42; refine (let_weighs name s x HX.out K _ HC2.out).mono ?_; rintro e u ⟨rfl, hb⟩; have HB1 := Aside0.mk (HB.out.trans (hb.mono HB.out.size)); have HC3 := Aside0.mk (Kd.C_below HC2.out hb); have HL1 := Aside0.mk (blk_of HL.out hb); have HBX1 := Aside0.mk (blk_of HBX.out hb); clear hb; have m0 : u.cell? ⟨L, 0, none⟩ = some (.int .i64 5) := blk_cell HL1.out 0; have m1 : u.cell? ⟨L, 1, none⟩ = some (.string name) := blk_cell HL1.out 1; have m2 : u.cell? ⟨L, 2, none⟩ = some (.slice (some ⟨K, 0, none⟩) 2 2) := blk_cell HL1.out 2)
              | (go_at_call 48; refine (let_good name s x HA.out true HG.out K _ HC3.out).mono ?_; rintro e u2 ⟨rfl, hb⟩; have HB4 := Aside0.mk (HB1.out.trans (hb.mono HB1.out.size)); have HC4 := Aside0.mk (Kd.C_below HC3.out hb); have HL2 := Aside0.mk (blk_of HL1.out hb); have HBX2 := Aside0.mk (blk_of HBX1.out hb); clear hb; have p0 : u2.cell? ⟨L, 0, none⟩ = some (.int .i64 5) := blk_cell HL2.out 0; have p1 : u2.cell? ⟨L, 1, none⟩ = some (.string name) := blk_cell HL2.out 1; have p2 : u2.cell? ⟨L, 2, none⟩ = some (.slice (some ⟨K, 0, none⟩) 2 2) := blk_cell HL2.out 2)
              | (go_at_call 43; (with_reducible refine (let_eval name s x HA.out _ _ _ HE1.out K _ HC4.out).mono ?_); rintro e u3 ⟨rfl, hb⟩; have HB5 := Aside0.mk (HB4.out.trans (hb.mono HB4.out.size)); have HC5 := Aside0.mk (Kd.C_below HC.out HB5.out); have HBX3 := Aside0.mk (blk_of HBX2.out hb); clear hb; have q0 : u3.cell? ⟨w.heap.size, 0, none⟩ = some (.int .i64 x.f0) := blk_cell HBX3.out 0; have q1 : u3.cell? ⟨w.heap.size, 1, none⟩ = some (.string x.f1) := blk_cell HBX3.out 1; have q2 : u3.cell? ⟨w.heap.size, 2, none⟩ = some (.slice A x.f2.length c) := blk_cell HBX3.out 2)
              | (go_at_call 50; refine (put_any x HXA.out name s A c _ HC5.out HCC.out).mono ?_; rintro e u4 ⟨B, d, rfl, hd, hCp, hb⟩; have HD := Aside0.mk hd; have HCP := Aside0.mk hCp; have HB6 := Aside0.mk (HB5.out.trans (hb.mono HB5.out.size)); clear hd hCp hb)
              | (go_at_call 43; (with_reducible refine (eval_is (putS x name s) HP.out _ _ _ HE2.out _ _ _ HCP.out HD.out).mono ?_); rintro e u5 ⟨rfl, hb⟩; have HB7 := Aside0.mk (HB6.out.trans (hb.mono HB6.out.size)); clear hb))
              go_ret
              exact ⟨rfl, HB7.out⟩
end Go.Proofs.YtijgifinhbbmaaaGreatDoor
