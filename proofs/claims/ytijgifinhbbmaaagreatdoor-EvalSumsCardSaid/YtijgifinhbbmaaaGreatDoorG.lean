/- Good, of any expression: what the printed functions count. No program in sight. -/
import Derived.Test.YtijgifinhbbmaaaGreatDoorEZ
import Derived.Test.YtijgifinhbbmaaaGreatDoorQ9
import Derived.Test.YtijgifinhbbmaaaGreatDoorQ113
set_option linter.unusedVariables false
set_option linter.unusedSimpArgs false
namespace Go.Proofs.YtijgifinhbbmaaaGreatDoor
open Go.RowKit Go.Proofs.YtijgifinhbbmaaaGreatDoorW.PrintWords Go.Proofs.YtijgifinhbbmaaaGreatDoor.Q
/-- Sizes that memory bears. -/
inductive AllS : Ex → Prop
  | mk (k : Int) (s : ByteArray) (ks : List Ex) (h1 : s.size ≤ 140737488355328) (h2 : ks.length ≤ 4000000000) (h3 : ∀ y ∈ ks, AllS y) : AllS ⟨k, s, ks⟩
def okKind (k : Int) (s : ByteArray) (n : Nat) : Bool :=
  decide (k = 1 ∧ n = 0) || (decide (k = 2 ∧ n = 0) && isName s) || decide (k = 3 ∧ 2 ≤ n ∧ s.toList = []) || decide (k = 4 ∧ n = 4 ∧ s.toList = []) || (decide (k = 5 ∧ n = 2) && isName s)
mutual
def cnt : Ex → Int → Int → Int
  | ⟨k, s, ks⟩, deep, left => if okKind k s ks.length = true then (if deep < 64 then cntL ks (deep + 1) (left - 1) else -1) else -1
def cntL : List Ex → Int → Int → Int
  | [], _, left => left
  | x :: r, deep, left => if 0 ≤ left then cntL r deep (cnt x deep left) else left
end
def goodB (x : Ex) : Bool := decide (0 ≤ cnt x 0 4096)
theorem cntL_le : ∀ (r : List Ex) (h : ∀ x ∈ r, ∀ d l, 0 ≤ l → -1 ≤ cnt x d l ∧ cnt x d l ≤ l) (d l : Int), -1 ≤ l → -1 ≤ cntL r d l ∧ cntL r d l ≤ l
  | [], _, d, l, hl => by simp only [cntL]; omega
  | x :: r, h, d, l, hl => by
    simp only [cntL]
    split
    · next h0 =>
      have h1 := h x (List.mem_cons_self ..) d l h0
      have h2 := cntL_le r (fun y hy => h y (List.mem_cons_of_mem _ hy)) d (cnt x d l) h1.1
      omega
    · omega
theorem cnt_le {x : Ex} (hx : AllS x) : ∀ d l, 0 ≤ l → -1 ≤ cnt x d l ∧ cnt x d l ≤ l := by
  induction hx with
  | mk k s ks h1 h2 h3 ih =>
    intro d l hl
    simp only [cnt]
    split
    · split
      · have := cntL_le ks ih (d + 1) (l - 1) (by omega); omega
      · omega
    · omega
theorem ev_l0 {k : Int} {s : ByteArray} {ks : List Ex} (hlen : ks.length ≤ 4000000000) {d : Int} (hd0 : 0 ≤ d) (hd : d < 64)
    (hle : ∀ x ∈ ks, ∀ d l, 0 ≤ l → -1 ≤ cnt x d l ∧ cnt x d l ≤ l) :
    ∀ (r pre : List Ex) (left : Int), ks = pre ++ r → -1 ≤ left → left ≤ 4096 → (∀ x ∈ r, ∀ left, 0 ≤ left → left ≤ 4096 → Ev (fun n => recipe_counted.f n x.f0 x.f1 x.f2 (d + 1) left) (cnt x (d + 1) left)) →
      Ev (fun n => recipe_counted.l0 n d left (pre.length : Int) k s ks) (cntL r (d + 1) left)
  | [], pre, left, he, h0, h1, _ => by
    refine Ev.step (f := fun _ => some left) (fun n => ?_) (Ev.now _)
    simp only [recipe_counted.l0]; rw [if_neg (by rw [he]; simp)]
  | x :: r, pre, left, he, h0, h1, hev => by
    have hlt : (pre.length : Int) < (ks.length : Int) := by rw [he]; simp; omega
    have hlt2 : pre.length < ks.length := by omega
    by_cases hl : 0 ≤ left
    · have hx : rd_T84 ks (pre.length : Int) = x := by rw [he]; simp [rd_T84]
      have hw1 : wrap64 (d + 1) = d + 1 := by unfold wrap64; omega
      have hw2 : wrap64 ((pre.length : Int) + 1) = ((pre ++ [x]).length : Int) := by unfold wrap64; simp; omega
      have hc := hle x (by rw [he]; simp) (d + 1) left hl
      have e : cntL (x :: r) (d + 1) left = cntL r (d + 1) (cnt x (d + 1) left) := by simp only [cntL]; rw [if_pos hl]
      rw [e]
      refine Ev.step (f := fun n => (recipe_counted.f n x.f0 x.f1 x.f2 (d + 1) left).bind fun t => recipe_counted.l0 n d t ((pre ++ [x]).length : Int) k s ks) (fun n => ?_) ?_
      · simp only [recipe_counted.l0]; rw [if_pos hlt, if_pos hl, if_pos (by omega), hx, hw1, hw2]
      · exact Ev.bind (hev x (List.mem_cons_self ..) left hl h1) (ev_l0 hlen hd0 hd hle r (pre ++ [x]) _ (by rw [he]; simp) hc.1 (by omega) (fun y hy => hev y (List.mem_cons_of_mem _ hy)))
    · have e : cntL (x :: r) (d + 1) left = left := by simp only [cntL]; rw [if_neg hl]
      rw [e]
      refine Ev.step (f := fun _ => some left) (fun n => ?_) (Ev.now _)
      simp only [recipe_counted.l0]; rw [if_pos hlt, if_neg hl]
theorem ev_j0 {b : Bool} {k : Int} {s : ByteArray} {ks : List Ex} {d left : Int} {R : Int} (hd : -100 ≤ left ∧ left ≤ 4096) (h0 : Ev (fun n => recipe_counted.l0 n d (left - 1) 0 k s ks) R) :
    Ev (fun n => recipe_counted.j0 n d left b k s ks) (if b = true then (if d < 64 then R else -1) else -1) := by
  have hw : wrap64 (left - 1) = left - 1 := by unfold wrap64; omega
  cases b
  · refine Ev.step (f := fun n => recipe_counted.j1 n d left true k s ks) (fun n => by simp [recipe_counted.j0]) ?_
    exact Ev.step (f := fun _ => some (-1)) (fun n => by simp [recipe_counted.j1]) (Ev.now _)
  · refine Ev.step (f := fun n => recipe_counted.j1 n d left (decide (d ≥ 64)) k s ks) (fun n => by simp [recipe_counted.j0]) ?_
    by_cases h : d < 64
    · rw [if_pos rfl, if_pos h, decide_eq_false (by omega)]
      exact Ev.step (f := fun n => recipe_counted.l0 n d (left - 1) 0 k s ks) (fun n => by simp [recipe_counted.j1, hw]) h0
    · rw [if_pos rfl, if_neg h, decide_eq_true (by omega)]
      exact Ev.step (f := fun _ => some (-1)) (fun n => by simp [recipe_counted.j1]) (Ev.now _)
theorem ev_cnt {x : Ex} (hx : AllS x) : ∀ d left, 0 ≤ d → 0 ≤ left → left ≤ 4096 → Ev (fun n => recipe_counted.f n x.f0 x.f1 x.f2 d left) (cnt x d left) := by
  induction hx with
  | mk k s ks h1 h2 h3 ih =>
    intro d left hd hl hl2
    have hL : d < 64 → Ev (fun n => recipe_counted.l0 n d (left - 1) 0 k s ks) (cntL ks (d + 1) (left - 1)) := fun h =>
      ev_l0 h2 hd h (fun x hx => cnt_le (h3 x hx)) ks [] (left - 1) rfl (by omega) (by omega) (fun x hx l a b => ih x hx (d + 1) l (by omega) a b)
    have hJ : ∀ b : Bool, Ev (fun n => recipe_counted.j0 n d left b k s ks) (if b = true then (if d < 64 then cntL ks (d + 1) (left - 1) else -1) else -1) := by
      intro b
      by_cases h : d < 64
      · exact ev_j0 (by omega) (hL h)
      · have e : (if b = true then (if d < 64 then cntL ks (d + 1) (left - 1) else -1) else -1) = (-1 : Int) := by rw [if_neg h]; simp
        rw [e]
        cases b
        · refine Ev.step (f := fun n => recipe_counted.j1 n d left true k s ks) (fun n => by simp [recipe_counted.j0]) ?_
          exact Ev.step (f := fun _ => some (-1)) (fun n => by simp [recipe_counted.j1]) (Ev.now _)
        · refine Ev.step (f := fun n => recipe_counted.j1 n d left (decide (d ≥ 64)) k s ks) (fun n => by simp [recipe_counted.j0]) ?_
          rw [decide_eq_true (by omega)]
          exact Ev.step (f := fun _ => some (-1)) (fun n => by simp [recipe_counted.j1]) (Ev.now _)
    have fin : ∀ b : Bool, okKind k s ks.length = b → (∀ n, recipe_counted.f (n + 1) k s ks d left = recipe_counted.j0 n d left b k s ks) → Ev (fun n => recipe_counted.f n k s ks d left) (cnt ⟨k, s, ks⟩ d left) := by
      intro b hb hf
      have e : cnt ⟨k, s, ks⟩ d left = (if b = true then (if d < 64 then cntL ks (d + 1) (left - 1) else -1) else -1) := by simp only [cnt, hb]
      rw [e]
      exact Ev.step hf (hJ b)
    show Ev (fun n => recipe_counted.f n k s ks d left) _
    by_cases k1 : k = 1
    · subst k1; exact fin (decide (ks.length = 0)) (by simp [okKind]) fun n => by
        have e : ((ks.length : Int) == 0) = decide (ks.length = 0) := by by_cases h : ks.length = 0 <;> simp [h] <;> omega
        simp [recipe_counted.f, e]
    by_cases k2 : k = 2
    · subst k2
      by_cases hn : ks.length = 0
      · have hn' : ks = [] := List.length_eq_zero_iff.1 hn
        exact fin (isName s) (by simp [okKind, hn]) fun n => by simp [recipe_counted.f, hn', recipe_Name.f]
      · have hn' : ks ≠ [] := fun e => hn (by rw [e]; rfl)
        exact fin false (by simp [okKind, hn]) fun n => by simp [recipe_counted.f, hn']
    by_cases k3 : k = 3
    · subst k3
      by_cases hn : 2 ≤ ks.length
      · have hn' : (2 : Int) ≤ (ks.length : Int) := by omega
        exact fin (s.toList == []) (by by_cases h : s.toList = [] <;> simp [okKind, hn, h]) fun n => by simp [recipe_counted.f, hn']
      · have hn' : ¬ (2 : Int) ≤ (ks.length : Int) := by omega
        exact fin false (by simp [okKind, hn]) fun n => by simp [recipe_counted.f, hn']
    by_cases k4 : k = 4
    · subst k4
      by_cases hn : ks.length = 4
      · have hn' : (ks.length : Int) = 4 := by omega
        exact fin (s.toList == []) (by by_cases h : s.toList = [] <;> simp [okKind, hn, h]) fun n => by simp [recipe_counted.f, hn']
      · have hn' : ¬ (ks.length : Int) = 4 := by omega
        exact fin false (by simp [okKind, hn]) fun n => by simp [recipe_counted.f, hn']
    by_cases k5 : k = 5
    · subst k5
      by_cases hn : ks.length = 2
      · have hn' : (ks.length : Int) = 2 := by omega
        exact fin (isName s) (by simp [okKind, hn]) fun n => by simp [recipe_counted.f, hn', recipe_Name.f]
      · have hn' : ¬ (ks.length : Int) = 2 := by omega
        exact fin false (by simp [okKind, hn]) fun n => by simp [recipe_counted.f, hn']
    exact fin false (by simp [okKind, k1, k2, k3, k4, k5]) fun n => by simp [recipe_counted.f, k1, k2, k3, k4, k5]
theorem ev_good {x : Ex} (hx : AllS x) : ∃ k, recipe_Good.f k x.f0 x.f1 x.f2 = some (goodB x) := by
  obtain ⟨k, hk⟩ := (ev_cnt hx 0 4096 (by omega) (by omega) (by omega)).rounds
  exact ⟨k, by unfold recipe_Good.f; rw [hk]; rfl⟩
theorem cntL_kids : ∀ (r : List Ex) (hr : ∀ x ∈ r, AllS x) (d l : Int), -1 ≤ l → 0 ≤ cntL r d l → ∀ x ∈ r, ∃ l', 0 ≤ l' ∧ 0 ≤ cnt x d l'
  | [], _, _, _, _, _, x, hx => by simp at hx
  | y :: r, hr, d, l, hl, h, x, hx => by
    simp only [cntL] at h
    split at h
    · next h0 =>
      have hy := cnt_le (hr y (List.mem_cons_self ..)) d l h0
      have h2 := (cntL_le r (fun z hz => cnt_le (hr z (List.mem_cons_of_mem _ hz))) d _ hy.1).2
      rcases List.mem_cons.1 hx with rfl | hx
      · exact ⟨l, h0, by omega⟩
      · exact cntL_kids r (fun z hz => hr z (List.mem_cons_of_mem _ hz)) d _ hy.1 h x hx
    · omega
theorem shape_of_cnt {x : Ex} (hx : AllS x) : ∀ d l, 0 ≤ l → 0 ≤ cnt x d l → Shape x := by
  induction hx with
  | mk k s ks h1 h2 h3 ih =>
    intro d l hl h
    simp only [cnt] at h
    split at h
    · next hok =>
      split at h
      · have hk : ∀ x ∈ ks, Shape x := fun x hx => by
          obtain ⟨l', a, b⟩ := cntL_kids ks h3 (d + 1) (l - 1) (by omega) h x hx
          exact ih x hx _ l' a b
        simp only [okKind, Bool.or_eq_true, Bool.and_eq_true, decide_eq_true_eq] at hok
        rcases hok with (((⟨rfl, _⟩ | ⟨⟨rfl, _⟩, _⟩) | ⟨rfl, hn, _⟩) | ⟨rfl, hn, _⟩) | ⟨⟨rfl, hn⟩, _⟩
        · exact .text s ks
        · exact .name s ks
        · exact .cat s ks (by omega) hk
        · match ks, hn, hk with
          | [a, b, c, d], _, hk => exact .ife s a b c d (hk a (by simp)) (hk b (by simp)) (hk c (by simp)) (hk d (by simp))
        · match ks, hn, hk with
          | [a, b], _, hk => exact .lete s a b (hk a (by simp)) (hk b (by simp))
      · omega
    · omega
theorem shape_of_good {x : Ex} (hx : AllS x) (h : goodB x = true) : Shape x := shape_of_cnt hx 0 4096 (by omega) (of_decide_eq_true h)
end Go.Proofs.YtijgifinhbbmaaaGreatDoor
