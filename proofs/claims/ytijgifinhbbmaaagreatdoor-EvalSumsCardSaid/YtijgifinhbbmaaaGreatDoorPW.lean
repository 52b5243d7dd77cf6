/- weighs, of any expression that memory bears; what it bounds. No program in sight. -/
import Derived.Test.YtijgifinhbbmaaaGreatDoorXE
set_option linter.unusedVariables false
set_option linter.unusedSimpArgs false
namespace Go.Proofs.YtijgifinhbbmaaaGreatDoor
open Go.RowKit Go.Proofs.YtijgifinhbbmaaaGreatDoorW.PrintWords Go.Proofs.YtijgifinhbbmaaaGreatDoor.Q
/-- Sizes that the reach bears. -/
inductive WS : Ex → Prop
  | mk (k : Int) (s : ByteArray) (ks : List Ex) (h1 : s.size ≤ 140737488355328) (h2 : ks.length ≤ 140737488355328) (h3 : ∀ y ∈ ks, WS y) : WS ⟨k, s, ks⟩
mutual
def wv : Ex → Int → Int → Int
  | ⟨_, s, ks⟩, left, deep => if deep > 200 then -1 else wvL ks (left - 1 - s.size) (deep + 1)
def wvL : List Ex → Int → Int → Int
  | [], l, _ => l
  | x :: r, l, d => if 0 ≤ l then wvL r (wv x l d) d else l
end
theorem wvL_le : ∀ (r : List Ex) (h : ∀ x ∈ r, ∀ l d, 0 ≤ l → wv x l d ≤ l - 1) (l d : Int), wvL r l d ≤ l ∧ (0 ≤ wvL r l d → wvL r l d ≤ l - r.length)
  | [], _, l, d => by simp [wvL]
  | x :: r, h, l, d => by
    simp only [wvL]
    split
    · next h0 =>
      have h1 := h x (List.mem_cons_self ..) l d h0
      have h2 := wvL_le r (fun y hy => h y (List.mem_cons_of_mem _ hy)) (wv x l d) d
      refine ⟨by omega, fun h3 => ?_⟩
      have := h2.2 h3
      simp only [List.length_cons]; omega
    · exact ⟨Int.le_refl _, fun h => by omega⟩
theorem wv_le {x : Ex} (hx : WS x) : ∀ l d, 0 ≤ l → wv x l d ≤ l - 1 := by
  induction hx with
  | mk k s ks h1 h2 h3 ih =>
    intro l d hl
    simp only [wv]
    split
    · omega
    · have := (wvL_le ks ih (l - 1 - s.size) (d + 1)).1; omega
theorem wvL_ge : ∀ (r : List Ex) (h : ∀ x ∈ r, ∀ l d, 0 ≤ l → -140737488355400 ≤ wv x l d) (l d : Int), -140737488355400 ≤ l → -140737488355400 ≤ wvL r l d
  | [], _, l, d, hl => hl
  | x :: r, h, l, d, hl => by
    simp only [wvL]
    split
    · next h0 => exact wvL_ge r (fun y hy => h y (List.mem_cons_of_mem _ hy)) _ d (h x (List.mem_cons_self ..) l d h0)
    · exact hl
theorem wv_ge {x : Ex} (hx : WS x) : ∀ l d, 0 ≤ l → -140737488355400 ≤ wv x l d := by
  induction hx with
  | mk k s ks h1 h2 h3 ih =>
    intro l d hl
    simp only [wv]
    split
    · omega
    · exact wvL_ge ks ih _ _ (by omega)
theorem wvL_kids : ∀ (r : List Ex) (hr : ∀ x ∈ r, WS x) (l d : Int), l ≤ 16384 → 0 ≤ wvL r l d → ∀ x ∈ r, ∃ l', 0 ≤ l' ∧ l' ≤ 16384 ∧ 0 ≤ wv x l' d
  | [], _, _, _, _, _, x, hx => by simp at hx
  | y :: r, hr, l, d, hl, h, x, hx => by
    simp only [wvL] at h
    split at h
    · next h0 =>
      have hy := wv_le (hr y (List.mem_cons_self ..)) l d h0
      have h2 := (wvL_le r (fun z hz => wv_le (hr z (List.mem_cons_of_mem _ hz))) (wv y l d) d).1
      rcases List.mem_cons.1 hx with rfl | hx
      · exact ⟨l, h0, hl, by omega⟩
      · exact wvL_kids r (fun z hz => hr z (List.mem_cons_of_mem _ hz)) _ d (by omega) h x hx
    · omega
theorem allS_of_wv {x : Ex} (hx : WS x) : ∀ l d, 0 ≤ l → l ≤ 16384 → 0 ≤ wv x l d → AllS x := by
  induction hx with
  | mk k s ks h1 h2 h3 ih =>
    intro l d hl hl2 h
    simp only [wv] at h
    split at h
    · omega
    · have h4 := wvL_le ks (fun z hz => wv_le (h3 z hz)) (l - 1 - s.size) (d + 1)
      have h5 := h4.2 h
      refine .mk k s ks h1 (by omega) fun y hy => ?_
      obtain ⟨l', a, b, c⟩ := wvL_kids ks h3 (l - 1 - s.size) (d + 1) (by omega) h y hy
      exact ih y hy l' _ a b c
theorem ev_wl {k : Int} {s : ByteArray} {ks : List Ex} (hlen : ks.length ≤ 140737488355328) {d : Int} (hd0 : 0 ≤ d) (hd : d ≤ 200) (hks : ∀ x ∈ ks, WS x) :
    ∀ (r pre : List Ex) (left : Int), ks = pre ++ r → -281474976710656 ≤ left → left ≤ 16384 → (∀ x ∈ r, ∀ left, 0 ≤ left → left ≤ 16384 → Ev (fun n => saplinglaw13_weighs.f n x.f0 x.f1 x.f2 left (d + 1)) (wv x left (d + 1))) →
      Ev (fun n => saplinglaw13_weighs.l0 n left d (pre.length : Int) k s ks) (wvL r left (d + 1))
  | [], pre, left, he, h0, h1, _ => by
    refine Ev.step (f := fun _ => some left) (fun n => ?_) (Ev.now _)
    simp only [saplinglaw13_weighs.l0]; rw [if_neg (by rw [he]; simp)]
  | x :: r, pre, left, he, h0, h1, hev => by
    have hlt : (pre.length : Int) < (ks.length : Int) := by rw [he]; simp; omega
    by_cases hl : 0 ≤ left
    · have hx : rd_T84 ks (pre.length : Int) = x := by rw [he]; simp [rd_T84]
      have hw1 : wrap64 (d + 1) = d + 1 := by unfold wrap64; omega
      have hw2 : wrap64 ((pre.length : Int) + 1) = ((pre ++ [x]).length : Int) := by unfold wrap64; simp; omega
      have hm : x ∈ ks := by rw [he]; simp
      have hc := wv_le (hks x hm) left (d + 1) hl
      have hg := wv_ge (hks x hm) left (d + 1) hl
      have e : wvL (x :: r) left (d + 1) = wvL r (wv x left (d + 1)) (d + 1) := by simp only [wvL]; rw [if_pos hl]
      rw [e]
      refine Ev.step (f := fun n => (saplinglaw13_weighs.f n x.f0 x.f1 x.f2 left (d + 1)).bind fun t => saplinglaw13_weighs.l0 n t d ((pre ++ [x]).length : Int) k s ks) (fun n => ?_) ?_
      · simp only [saplinglaw13_weighs.l0]; rw [if_pos hlt, if_pos hl, if_pos (by omega), hx, hw1, hw2]
      · exact Ev.bind (hev x (List.mem_cons_self ..) left hl h1) (ev_wl hlen hd0 hd hks r (pre ++ [x]) _ (by rw [he]; simp) (by omega) (by omega) (fun y hy => hev y (List.mem_cons_of_mem _ hy)))
    · have e : wvL (x :: r) left (d + 1) = left := by simp only [wvL]; rw [if_neg hl]
      rw [e]
      refine Ev.step (f := fun _ => some left) (fun n => ?_) (Ev.now _)
      simp only [saplinglaw13_weighs.l0]; rw [if_pos hlt, if_neg hl]
theorem ev_w {x : Ex} (hx : WS x) : ∀ left d, 0 ≤ d → d ≤ 201 → -200 ≤ left → left ≤ 16384 → Ev (fun n => saplinglaw13_weighs.f n x.f0 x.f1 x.f2 left d) (wv x left d) := by
  induction hx with
  | mk k s ks h1 h2 h3 ih =>
    intro left d hd hd2 hl hl2
    show Ev (fun n => saplinglaw13_weighs.f n k s ks left d) _
    by_cases h : d > 200
    · have e : wv ⟨k, s, ks⟩ left d = -1 := by simp only [wv]; rw [if_pos h]
      rw [e]
      exact Ev.step (f := fun _ => some (-1)) (fun n => by simp only [saplinglaw13_weighs.f]; rw [if_pos h]) (Ev.now _)
    · have e : wv ⟨k, s, ks⟩ left d = wvL ks (left - 1 - s.size) (d + 1) := by simp only [wv]; rw [if_neg h]
      have hw : wrap64 ((wrap64 (left - 1)) - (s.size : Int)) = left - 1 - s.size := by unfold wrap64; omega
      rw [e]
      refine Ev.step (f := fun n => saplinglaw13_weighs.l0 n (left - 1 - s.size) d 0 k s ks) (fun n => by simp only [saplinglaw13_weighs.f]; rw [if_neg h, hw]) ?_
      exact ev_wl h2 hd (by omega) h3 ks [] _ rfl (by omega) (by omega) (fun x hx l a b => ih x hx l (d + 1) (by omega) (by omega) (by omega) b)
end Go.Proofs.YtijgifinhbbmaaaGreatDoor
