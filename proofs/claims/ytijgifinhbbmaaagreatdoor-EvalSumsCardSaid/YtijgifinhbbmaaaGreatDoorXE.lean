/- eval.Eval: what it answers, of any expression whose sizes memory bears. -/
import Derived.Test.YtijgifinhbbmaaaGreatDoorG
set_option linter.unusedVariables false
set_option linter.unusedSimpArgs false
namespace Go.Proofs.YtijgifinhbbmaaaGreatDoor
open Go.RowKit Go.Proofs.YtijgifinhbbmaaaGreatDoorW.PrintWords Go.Proofs.YtijgifinhbbmaaaGreatDoor.Q
def resT : Res → ByteArray × Int × Int
  | .fail e t => (⟨#[]⟩, t, e)
  | .ok s t => (s, t, 0)
def evalT (x : Ex) : ByteArray × Int × Int := if goodB x = true then resT (mean x [] 0) else (⟨#[]⟩, 0, 1)
open Classical in
noncomputable def eval_Eval.f (a0_0 : Int) (a0_1 : ByteArray) (l0_2 : List Ex) : Option (ByteArray × Int × Int) := if AllS ⟨a0_0, a0_1, l0_2⟩ then some (evalT ⟨a0_0, a0_1, l0_2⟩) else none
def wt (frs : List Fr) : Nat := (frs.map fun f => f.vals.length + 1).sum
structure Ok (st : St) : Prop where
  t0 : 0 ≤ st.turns
  t1 : st.turns ≤ 1000
  w : (wt st.frs : Int) ≤ st.turns
  fr : ∀ fr ∈ st.frs, AllS fr.x ∧ (∀ v ∈ fr.vals, v.size ≤ 256) ∧ (∀ x ∈ fr.sees, x.2.size ≤ 256)
theorem wt_mem {frs : List Fr} {f : Fr} (h : f ∈ frs) : f.vals.length + 1 ≤ wt frs := by
  induction frs with
  | nil => simp at h
  | cons g r ih =>
    rcases List.mem_cons.1 h with rfl | h
    · simp [wt]
    · have := ih h; simp only [wt, List.map_cons, List.sum_cons] at this ⊢; omega
theorem wt_len (frs : List Fr) : frs.length ≤ wt frs := by
  induction frs with
  | nil => simp
  | cons g r ih => simp only [wt, List.map_cons, List.sum_cons, List.length_cons] at ih ⊢; omega
theorem AllS.size {x : Ex} (h : AllS x) : x.f1.size ≤ 140737488355328 := by cases h; assumption
theorem AllS.kid {x : Ex} (h : AllS x) {i : Nat} (hi : i < x.f2.length) : AllS (kidAt x i) := by
  cases h with
  | mk k s ks h1 h2 h3 =>
    have e : kidAt ⟨k, s, ks⟩ i = ks[i] := by simp [kidAt, rd_T84, List.getD_eq_getElem?_getD, List.getElem?_eq_getElem (show i < ks.length from hi)]
    rw [e]; exact h3 _ (List.getElem_mem _)
theorem Ok.sized {st : St} (h : Ok st) : Sized st := by
  have h1 := wt_len st.frs
  have h2 := h.w
  have h3 := h.t1
  exact ⟨h.t0, h.t1, by omega, fun fr hf => ⟨by have := wt_mem hf; omega, (h.fr fr hf).2.1, (h.fr fr hf).1.size, (h.fr fr hf).2.2⟩⟩
theorem Ok.begin {st : St} (h : Ok st) {x : Ex} {sees : List Nm} (hx : AllS x) (hs : ∀ y ∈ sees, y.2.size ≤ 256) : Ok (beginS st x sees) := by
  obtain ⟨a, b, c, d⟩ := h
  unfold beginS
  split
  · exact ⟨a, b, c, d⟩
  · refine ⟨by simp; omega, by simp; omega, ?_, ?_⟩
    · simp only [wt, List.map_cons, List.sum_cons, List.length_nil] at c ⊢; omega
    · intro fr hf
      rcases List.mem_cons.1 hf with rfl | hf
      · exact ⟨hx, by simp, hs⟩
      · exact d fr hf
theorem Ok.done {st : St} (h : Ok st) {s : ByteArray} : Ok (doneS st s).1 := by
  obtain ⟨a, b, c, d⟩ := h
  unfold doneS
  split
  · exact ⟨a, b, c, d⟩
  · next hs =>
    split
    · next f0 fr r he =>
      rw [he] at c d
      refine ⟨a, b, ?_, ?_⟩
      · simp only [wt, List.map_cons, List.sum_cons, List.length_append, List.length_singleton] at c ⊢; omega
      · intro g hg
        rcases List.mem_cons.1 hg with rfl | hg
        · obtain ⟨d1, d2, d3⟩ := d fr (by simp)
          refine ⟨d1, ?_, d3⟩
          intro v hv
          rcases List.mem_append.1 hv with hv | hv
          · exact d2 v hv
          · obtain rfl := List.mem_singleton.1 hv; omega
        · exact d g (by simp [hg])
    · exact ⟨a, b, by simp [wt]; omega, by simp⟩
theorem Ok.turn {st st' : St} {s : ByteArray} {all : Bool} (h : Ok st) (ht : turnS st = some (st', s, all)) : Ok st' := by
  have hp : ∀ {x : Ex} {i : Nat} {sees : List Nm} {fr : Fr}, fr ∈ st.frs → (∀ y ∈ sees, y.2.size ≤ 256) → (if i < fr.x.f2.length then some (beginS st (kidAt fr.x i) sees, (⟨#[]⟩ : ByteArray), false) else none) = some (st', s, all) → Ok st' := by
    intro x i sees fr hf hs he
    split at he
    · next hi => simp only [Option.some.injEq, Prod.mk.injEq] at he; rw [← he.1]; exact h.begin ((h.fr fr hf).1.kid hi) hs
    · cases he
  have hd : ∀ {v : ByteArray}, some (doneS st v) = some (st', s, all) → Ok st' := by
    intro v he
    have : (doneS st v).1 = st' := by rw [Option.some.inj he]
    rw [← this]; exact h.done
  unfold turnS at ht
  cases hfr : st.frs with
  | nil => rw [hfr] at ht; cases ht
  | cons top r =>
    have htop : top ∈ st.frs := by rw [hfr]; exact List.mem_cons_self ..
    obtain ⟨h1, h2, h3⟩ := h.fr top htop
    rw [hfr] at ht
    simp only at ht
    split at ht
    · exact hd ht
    split at ht
    · split at ht
      · exact hd ht
      · simp only [Option.some.injEq, Prod.mk.injEq] at ht; rw [← ht.1]; exact ⟨h.t0, h.t1, by rw [← hfr]; exact h.w, by rw [← hfr]; exact h.fr⟩
    split at ht
    · split at ht
      · split at ht
        · exact hd ht
        · cases ht
      · exact hp (x := top.x) htop h3 ht
    split at ht
    · split at ht
      · exact hp (x := top.x) htop h3 ht
      · exact hp (x := top.x) htop h3 ht
      · split at ht
        · exact hp (x := top.x) htop h3 ht
        · exact hp (x := top.x) htop h3 ht
      · exact hd ht
      · cases ht
    split at ht
    · split at ht
      · exact hp (x := top.x) htop h3 ht
      · next a hv =>
        refine hp (x := top.x) htop ?_ ht
        intro y hy
        rcases List.mem_cons.1 hy with rfl | hy
        · exact h2 a (by rw [hv]; simp)
        · exact h3 y hy
      · exact hd ht
      · cases ht
    · cases ht
end Go.Proofs.YtijgifinhbbmaaaGreatDoor
/- eval.Eval: its walk. -/
set_option linter.unusedVariables false
set_option linter.unusedSimpArgs false
namespace Go.Proofs.YtijgifinhbbmaaaGreatDoor
open Go.RowKit Go.Proofs.YtijgifinhbbmaaaGreatDoorW.PrintWords Go.Proofs.YtijgifinhbbmaaaGreatDoor.Q
set_option maxRecDepth 100000 in
set_option maxHeartbeats 1000000 in
theorem eval_bad (x : Ex) (A : Option Addr) (c : Nat) (k : Nat) (w : World) (hr : Kd.C kEx w A x.f2.length x.f2) (hc : x.f2.length ≤ c) (hk : recipe_Good.f k x.f0 x.f1 x.f2 = some false) :
    Calls Tryz.prog 43 #[.agg #[.int .i64 x.f0, .string x.f1, .slice A x.f2.length c]] w fun e w' => e = .returned (.tuple #[.string ⟨#[]⟩, .int .i64 0, .int .i64 1]) ∧ Below w.heap.size w w' := by
  have HR := Aside0.mk hr
  have HC := Aside0.mk hc
  have HK := Aside0.mk hk
  clear hr hc hk
  go_enter Tryz.func43, Tryz.ntmps43
  go_wp2_with (go_at_call 48; refine (recipe_Good.calls k x.f0 x.f1 A c x.f2 false _ (Kd.C_alloc HR.out _) HC.out HK.out).mono ?_; rintro e w' ⟨rfl, hb⟩)
  go_ret3
  exact ⟨rfl, (below1 _ _).trans (hb.mono (by simp))⟩
theorem IsM.fields {w0 W : World} {M : Nat} {st : St} (h : IsM w0 W M st) : W.cell? ⟨M, 1, none⟩ = some (.int .i64 st.turns) ∧ W.cell? ⟨M, 2, none⟩ = some (.int .i64 st.fault) ∧ Below w0.heap.size w0 W := by
  obtain ⟨sv, cs, vs, hb, hm, ho, hf, ha, hB⟩ := h
  exact ⟨blk_cell hb 1, blk_cell hb 2, hB⟩
theorem isM_new (w0 W : World) (h : Below w0.heap.size w0 W) : IsM w0 (W.alloc (.cells #[.slice none 0 0, .int .i64 0, .int .i64 0] 155)) W.heap.size ⟨[], 0, 0⟩ :=
  ⟨.slice none 0 0, [], [], heap_alloc_new _ _, h.size, own_nil _ _ _ _, ⟨rfl, rfl⟩, List.Pairwise.nil, h.alloc h.size _⟩
set_option maxRecDepth 100000 in
set_option maxHeartbeats 1000000 in
theorem eval_go (x : Ex) (A : Option Addr) (c : Nat) (k kk : Nat) (R : ByteArray × Int × Int) (w : World) (hr : Kd.C kEx w A x.f2.length x.f2) (hc : x.f2.length ≤ c) (hx : AllS x) (hk : recipe_Good.f k x.f0 x.f1 x.f2 = some true)
    (hR : evL kk (beginS ⟨[], 0, 0⟩ x []) = some R) :
    Calls Tryz.prog 43 #[.agg #[.int .i64 x.f0, .string x.f1, .slice A x.f2.length c]] w fun e w' => e = .returned (.tuple #[.string R.1, .int .i64 R.2.1, .int .i64 R.2.2]) ∧ Below w.heap.size w w' := by
  have HR := Aside0.mk hr
  have HC := Aside0.mk hc
  have HK := Aside0.mk hk
  have HX := Aside0.mk hx
  have HE := Aside0.mk hR
  clear hr hc hk hx hR
  go_enter Tryz.func43, Tryz.ntmps43
  go_wp2_with (first | (go_at_call 48; refine (recipe_Good.calls k x.f0 x.f1 A c x.f2 true _ (Kd.C_alloc HR.out _) HC.out HK.out).mono ?_; rintro e w1 ⟨rfl, hb⟩; have HB := Aside0.mk ((below1 _ _).trans (hb.mono (by simp))); have hlt : w.heap.size < w1.heap.size := Nat.lt_of_lt_of_le (by simp) hb.size; have hbk := Aside0.mk ((hb.block w.heap.size (by simp)).trans (heap_alloc_new w _)); clear hb; have d0 := blk_cell hbk.out 0; have d1 := blk_cell hbk.out 1; have d2 := blk_cell hbk.out 2; simp only [List.getElem?_toArray, List.getElem?_cons_zero, List.getElem?_cons_succ] at d0 d1 d2) | (go_at_call 81; refine (begin_calls w _ w1.heap.size ⟨[], 0, 0⟩ x A c none [] (isM_new w w1 HB.out) HR.out HC.out rfl (by decide) (by decide) (by decide)).mono ?_; rintro e w2 ⟨rfl, hM, hK⟩; have HM := Aside0.mk hM; clear hM hK))
  have HM2 := HM
  clear HM hbk d0 d1 d2 HR HC HK
  have HO := Aside0.mk ((Ok.mk (st := ⟨[], 0, 0⟩) (by decide) (by decide) (by decide) (by simp)).begin HX.out (sees := []) (by simp))
  clear HX
  generalize beginS ⟨[], 0, 0⟩ x [] = st0 at HM2 HO HE
  generalize w1.heap.size = M at *
  go_loopg [6, 7] kk (fun kq v6 v7 w' => ∃ st, Aside0 (IsM w w' M st) ∧ Aside0 (Ok st) ∧ Aside0 (evL kq st = some R))
  case atStart => exact ⟨st0, HM2, HO, HE⟩
  case round =>
    clear HM2 HO HE
    obtain ⟨st, HM, HO, HE⟩ := hrel
    have HF := Aside0.mk (HM.out.fields)
    have c2 := HF.out.2.1
    cases gk with
    | zero => exact absurd HE.out (by simp [evL])
    | succ gk =>
    by_cases hf : st.fault = 0
    · have hE := HE.out
      rw [evL, if_pos hf] at hE
      cases ht : turnS st with
      | none => rw [ht] at hE; cases hE
      | some t =>
      obtain ⟨st', s, all⟩ := t
      rw [ht] at hE
      have HT := Aside0.mk ht
      clear ht HE
      rw [hf] at c2
      clear hf
      cases all
      · have HE2 := Aside0.mk (show evL gk st' = some R from hE)
        clear hE
        go_wp2_with (go_at_call 82; refine (turn_calls w _ M st st' s false HM.out HO.out.sized HT.out).mono ?_; rintro e w3 ⟨rfl, hM3⟩; have HM3 := Aside0.mk hM3; clear hM3 c2)
        go_roundg gk
        case measure => omega
        case rel => exact ⟨st', HM3, ⟨HO.out.turn HT.out⟩, HE2⟩
      · obtain rfl : (s, st'.turns, (0 : Int)) = R := Option.some.inj hE
        clear hE
        go_wp2_with (go_at_call 82; refine (turn_calls w _ M st st' s true HM.out HO.out.sized HT.out).mono ?_; rintro e w3 ⟨rfl, hM3⟩; have HM3 := Aside0.mk hM3; clear hM3 c2; have c1 := HM3.out.fields.1)
        go_region
        go_wp2
        go_ret3
        exact ⟨rfl, (HM3.out.fields.2.2).trans (below_drewN (Below.refl _ _) _)⟩
    · have hE := HE.out
      rw [evL, if_neg hf] at hE
      obtain rfl : ((⟨#[]⟩ : ByteArray), st.turns, st.fault) = R := Option.some.inj hE
      clear hE HE
      have c1 := HF.out.1
      have hf2 : (st.fault == 0) = false := by simpa using hf
      clear hf
      go_wp2
      go_region
      go_wp2
      go_ret3
      exact ⟨rfl, HF.out.2.2.trans (below_drewN (Below.refl _ _) 1)⟩
end Go.Proofs.YtijgifinhbbmaaaGreatDoor
/- eval.Eval: its contract. -/
set_option linter.unusedVariables false
set_option linter.unusedSimpArgs false
namespace Go.Proofs.YtijgifinhbbmaaaGreatDoor
open Go.RowKit Go.Proofs.YtijgifinhbbmaaaGreatDoorW.PrintWords Go.Proofs.YtijgifinhbbmaaaGreatDoor.Q
theorem fin_rounds {st : St} {R : Res} (h : Fin st [] R) : ∃ k, evL k st = some (resT R) := by
  cases R with
  | fail e t => obtain ⟨n, hn⟩ := h; exact ⟨_, hn 0⟩
  | ok s t => obtain ⟨n, hn⟩ := h; exact ⟨_, hn 0⟩
theorem eval_Eval.calls (a0_0 : Int) (a0_1 : ByteArray) (A0_2 : Option Addr) (c0_2 : Nat) (l0_2 : List Ex) (r1 : ByteArray) (r2 : Int) (r3 : Int) (w : World) (hr0_2 : Kd.C kEx w A0_2 l0_2.length l0_2) (hc0_2 : l0_2.length ≤ c0_2) (h : eval_Eval.f a0_0 a0_1 l0_2 = some (r1, r2, r3)) :
    Calls Tryz.prog 43 #[.agg #[.int .i64 a0_0, .string a0_1, .slice A0_2 l0_2.length c0_2]] w fun e w' => e = .returned (.tuple #[.string r1, .int .i64 r2, .int .i64 r3]) ∧ Below w.heap.size w w' := by
  unfold eval_Eval.f at h
  split at h
  · next hx =>
    obtain ⟨k, hk⟩ := ev_good hx
    have h2 := Option.some.inj h
    unfold evalT at h2
    cases hg : goodB ⟨a0_0, a0_1, l0_2⟩
    · rw [hg] at hk h2
      rw [if_neg (by decide)] at h2
      obtain ⟨rfl, h3⟩ := Prod.mk.inj h2
      obtain ⟨rfl, rfl⟩ := Prod.mk.inj h3
      exact eval_bad ⟨a0_0, a0_1, l0_2⟩ A0_2 c0_2 k w hr0_2 hc0_2 hk
    · rw [hg] at hk h2
      rw [if_pos rfl] at h2
      obtain ⟨kk, hkk⟩ := fin_rounds (sim (shape_of_good hx hg) [] 0 [])
      rw [h2] at hkk
      exact eval_go ⟨a0_0, a0_1, l0_2⟩ A0_2 c0_2 k kk (r1, r2, r3) w hr0_2 hc0_2 hx hk hkk
  · cases h
end Go.Proofs.YtijgifinhbbmaaaGreatDoor
/- The two expressions of saplinglaw13.alive, and what they mean. -/
set_option linter.unusedVariables false
set_option linter.unusedSimpArgs false
namespace Go.Proofs.YtijgifinhbbmaaaGreatDoor
open Go.RowKit Go.Shelf Go.Proofs.YtijgifinhbbmaaaGreatDoorW.PrintWords Go.Proofs.YtijgifinhbbmaaaGreatDoor.Q
theorem C_nil (W : World) (A : Option Addr) : kEx.C W A 0 [] := ⟨rfl, by decide, fun h => absurd h (by decide)⟩
theorem C_rows {W : World} {b : Nat} {cs : List Value} (h : W.heap[b]? = some (.cells cs.toArray 84 (0, 0))) (xs : List Ex) (hl : xs.length ≤ 9223372036854775807)
    (hrow : ∀ j x, xs[j]? = some x → ∃ A c, x.f2.length ≤ c ∧ kEx.C W A x.f2.length x.f2 ∧ cs[j * 3]? = some (.int .i64 x.f0) ∧ cs[j * 3 + 1]? = some (.string x.f1) ∧ cs[j * 3 + 2]? = some (.slice A x.f2.length c)) :
    kEx.C W (some ⟨b, 0, none⟩) xs.length xs := by
  refine ⟨rfl, hl, fun _ => ⟨_, rfl, fun j p hp => ?_⟩⟩
  obtain ⟨A, c, h1, h2, h3, h4, h5⟩ := hrow j p hp
  refine ⟨_, rfl, k84_mk W p h1 h2, fun i u hi => ?_⟩
  rw [show (⟨b, 0, none⟩ : Addr).add (j * kEx.sz + i) = ⟨b, j * 3 + i, none⟩ from by rw [add_plain]; rfl, blk_cell h, List.getElem?_toArray]
  match i, hi with
  | 0, hi => rw [← hi]; exact h3
  | 1, hi => rw [← hi]; exact h4
  | 2, hi => rw [← hi]; exact h5
def tx (s : ByteArray) : Ex := ⟨1, s, []⟩
def wd (s : ByteArray) : Ex := ⟨2, s, []⟩
def sA : ByteArray := ⟨#[97]⟩
def sB : ByteArray := ⟨#[98]⟩
def sC : ByteArray := ⟨#[99]⟩
def sX : ByteArray := ⟨#[120]⟩
def sY : ByteArray := ⟨#[121]⟩
def e1 : Ex := ⟨5, sX, [tx sA, ⟨3, ⟨#[]⟩, [wd sX, wd sX]⟩]⟩
def e2 : Ex := ⟨4, ⟨#[]⟩, [tx sA, tx sB, wd sY, tx sC]⟩
theorem allS_leaf {k : Int} {s : ByteArray} (h : s.size ≤ 1000) : AllS ⟨k, s, []⟩ := .mk _ _ _ (by omega) (by decide) (by simp)
theorem e1_all : AllS e1 := .mk _ _ _ (by decide) (by decide) (by
  intro y hy
  rcases List.mem_cons.1 hy with rfl | hy
  · exact allS_leaf (by decide)
  · obtain rfl := List.mem_singleton.1 hy
    refine .mk _ _ _ (by decide) (by decide) (fun z hz => ?_)
    rcases List.mem_cons.1 hz with rfl | hz
    · exact allS_leaf (by decide)
    · obtain rfl := List.mem_singleton.1 hz; exact allS_leaf (by decide))
theorem e2_all : AllS e2 := .mk _ _ _ (by decide) (by decide) (by
  intro y hy
  simp only [List.mem_cons, List.not_mem_nil, or_false] at hy
  rcases hy with rfl | rfl | rfl | rfl <;> exact allS_leaf (by decide))
theorem isX : isName sX = true := by decide +kernel
theorem isY : isName sY = true := by decide +kernel
theorem e1_good : goodB e1 = true := by simp [goodB, e1, tx, wd, cnt, cntL, okKind, isX]
theorem e2_good : goodB e2 = true := by simp [goodB, e2, tx, wd, cnt, cntL, okKind, isY]
theorem e1_mean0 : mean e1 [] 0 = .ok ⟨#[97, 97]⟩ 5 := by
  have l1 : look [(sX, sA)] sX = (sA, true) := by simp [look]
  have l2 : ¬ 256 < sA.size := by decide
  have l3 : joinV [sA, sA] = ⟨#[97, 97]⟩ := by decide +kernel
  have l4 : ¬ 256 < (⟨#[97, 97]⟩ : ByteArray).size := by decide
  simp [e1, tx, wd, mean, meanLet, meanCat, fin, l1, l2, l3, l4]
theorem e2_mean0 : mean e2 [] 0 = .ok sC 4 := by
  have l2 : ¬ 256 < sA.size := by decide
  have l3 : ¬ 256 < sB.size := by decide
  have l4 : ¬ 256 < sC.size := by decide
  have l5 : ¬ sA.toList = sB.toList := by rw [Lib.toList_data, Lib.toList_data]; decide
  simp [e2, tx, wd, mean, meanIf, fin, l2, l3, l4, l5]
theorem e1_mean : evalT e1 = (⟨#[97, 97]⟩, 5, 0) := by unfold evalT; rw [if_pos e1_good, e1_mean0]; rfl
theorem e2_mean : evalT e2 = (sC, 4, 0) := by unfold evalT; rw [if_pos e2_good, e2_mean0]; rfl
theorem tx_mean {s : ByteArray} (h : s.size ≤ 256) : evalT (tx s) = (s, 1, 0) := by
  have hg : goodB (tx s) = true := rfl
  unfold evalT
  rw [if_pos hg]
  have : mean (tx s) [] 0 = .ok s 1 := by
    have h2 : ¬ 256 < s.size := by omega
    simp [tx, mean, fin, h2]
  rw [this]; rfl
theorem eval_f {x : Ex} (h : AllS x) : eval_Eval.f x.f0 x.f1 x.f2 = some (evalT x) := by cases x; unfold eval_Eval.f; exact if_pos h
end Go.Proofs.YtijgifinhbbmaaaGreatDoor
