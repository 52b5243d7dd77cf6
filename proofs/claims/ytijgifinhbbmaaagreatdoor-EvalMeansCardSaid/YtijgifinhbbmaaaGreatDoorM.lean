/- A name's signs, byte by byte: the reference's Name is the program's. No program in sight. -/
import Derived.Test.YtijgifinhbbmaaaGreatDoorXName
import Derived.Laws.RangeString
import Derived.Laws.RangeAny
import Derived.Test.YtijgifinhbbmaaaGreatDoorQ114
import Derived.Test.YtijgifinhbbmaaaGreatDoorG
import Derived.Test.YtijgifinhbbmaaaGreatDoorQ114
import Derived.Test.YtijgifinhbbmaaaGreatDoorPW
import Derived.Test.YtijgifinhbbmaaaGreatDoorQ119
import Derived.Test.YtijgifinhbbmaaaGreatDoorQ121
set_option linter.unusedVariables false
set_option linter.unusedSimpArgs false
namespace Go.Proofs.YtijgifinhbbmaaaGreatDoor
open Go.RowKit Go.Proofs.YtijgifinhbbmaaaGreatDoorW.PrintWords Go.Proofs.YtijgifinhbbmaaaGreatDoor.Q
/-- Of signs below 128: the first rune that is none is there if a byte is none. -/
theorem idx_any (ok : Nat → Bool) (hok : ∀ r, 128 ≤ r → ok r = false) (s : ByteArray) : ∀ (f pos : Nat), s.size ≤ pos + f →
    (0 ≤ Lib.idxFuncFrom (fun r => !ok r) true s f pos ↔ ∃ i : Nat, ∃ h : i < s.size, pos ≤ i ∧ ok (s[i]'h).toNat = false) := by
  intro f
  induction f with
  | zero =>
    intro pos h
    rw [Lib.idxFuncFrom_end _ _ _ _ _ (by omega)]
    exact ⟨fun h => by omega, fun ⟨i, hi, hp, _⟩ => by omega⟩
  | succ f ih =>
    intro pos h
    by_cases hp : pos < s.size
    · unfold Lib.idxFuncFrom
      rw [if_pos hp]
      by_cases hb : (s[pos]'hp).toNat < 128
      · rw [decode_ascii s pos hp hb]
        cases ho : ok (s[pos]'hp).toNat
        · simp only [ho, Bool.not_false, if_true]
          exact ⟨fun _ => ⟨pos, hp, Nat.le_refl _, ho⟩, fun _ => by omega⟩
        · simp only [ho, Bool.not_true, Bool.false_eq_true, if_false]
          rw [ih (pos + 1) (by omega)]
          refine ⟨fun ⟨i, hi, h1, h2⟩ => ⟨i, hi, by omega, h2⟩, fun ⟨i, hi, h1, h2⟩ => ⟨i, hi, ?_, h2⟩⟩
          rcases Nat.lt_or_ge pos i with h | h
          · exact h
          · have : i = pos := Nat.le_antisymm h h1
            subst this
            rw [ho] at h2; cases h2
      · have hb2 : 128 ≤ (s[pos]'hp).toNat := by omega
        have hd := decode_high s pos hp hb2
        have h3 : ok (Utf8.decode s pos).1 = false := hok _ hd.1
        simp only [h3, Bool.not_false, if_true]
        exact ⟨fun _ => ⟨pos, hp, Nat.le_refl _, hok _ hb2⟩, fun _ => by omega⟩
    · rw [Lib.idxFuncFrom_end _ _ _ _ _ hp]
      exact ⟨fun h => by omega, fun ⟨i, hi, hp, _⟩ => by omega⟩
theorem letterB_high (r : Nat) (h : 128 ≤ r) : letterB (r : Int) = false := decide_eq_false (by omega)
theorem bad_iff (s : ByteArray) : badRune s = true ↔ ∃ i : Nat, ∃ h : i < s.size, letterB (bt s i) = false := by
  unfold badRune Lib.idxFunc
  rw [decide_eq_true_iff, idx_any (fun r => letterB (r : Int)) letterB_high s s.size 0 (by omega)]
  constructor
  · rintro ⟨i, h, _, h2⟩; exact ⟨i, h, by rw [← bt_at s i (by simpa using h)]; exact h2⟩
  · rintro ⟨i, h, h2⟩; exact ⟨i, h, Nat.zero_le _, by rw [← bt_at s i (by simpa using h)] at h2; exact h2⟩
theorem ref_letter (a : Int) : saplingref12_letter.f a = some (letterB a) := by
  unfold saplingref12_letter.f
  have h : ∀ b : Bool, (b = true ↔ ((97 ≤ a ∧ a ≤ 122) ∨ (48 ≤ a ∧ a ≤ 57) ∨ a = 95)) → some b = some (letterB a) := fun b hb => by rw [letterB_iff hb]
  split
  · split
    · exact h _ (by simp; omega)
    · split
      · split
        · exact h _ (by simp; omega)
        · exact h _ (by simp; omega)
      · exact h _ (by simp; omega)
  · split
    · split
      · exact h _ (by simp; omega)
      · exact h _ (by simp; omega)
    · exact h _ (by simp; omega)
theorem ref_kw_l0 (s : ByteArray) : ∀ (r pre l : List ByteArray), l = pre ++ r → l.length ≤ 1000 →
    Ev (fun k => saplingref12_Keyword.l0 k s l (l.length : Int) (pre.length : Int)) (r.any fun x => decide (s.toList = x.toList))
  | [], pre, l, he, hl => by
    refine Ev.step (f := fun _ => some false) (fun k => ?_) (Ev.now _)
    simp only [saplingref12_Keyword.l0]; rw [if_neg (by rw [he]; simp)]
  | x :: r, pre, l, he, hl => by
    have hlt : (pre.length : Int) < (l.length : Int) := by rw [he]; simp; omega
    have hx : rdOf ByteArray.empty l (pre.length : Int) = x := by rw [he]; simp [rdOf]
    have hw : wrap64 ((pre.length : Int) + 1) = ((pre ++ [x]).length : Int) := by unfold wrap64; simp; omega
    by_cases h : s.toList = x.toList
    · refine Ev.step (f := fun _ => some true) (fun k => ?_) ?_
      · simp only [saplingref12_Keyword.l0]; rw [if_pos hlt, if_pos (by omega), if_pos hlt, hx, if_pos h]
      · rw [List.any_cons, decide_eq_true h]; exact Ev.now _
    · refine Ev.step (f := fun k => saplingref12_Keyword.l0 k s l (l.length : Int) ((pre ++ [x]).length : Int)) (fun k => ?_) ?_
      · simp only [saplingref12_Keyword.l0]; rw [if_pos hlt, if_pos (by omega), if_pos hlt, hx, if_neg h, hw]
      · rw [List.any_cons, decide_eq_false h, Bool.false_or]; exact ref_kw_l0 s r (pre ++ [x]) l (by rw [he]; simp) hl
theorem ref_kw (s : ByteArray) : Ev (fun k => saplingref12_Keyword.f k s) (isKw s) := ref_kw_l0 s kwl [] kwl rfl (by decide)
theorem ref_name_l0 (s : ByteArray) (hs : s.size ≤ 140737488355328) : ∀ (d i : Nat), i + d = s.size → (∀ j : Nat, j < i → letterB (bt s j) = true) → Ev (fun k => saplingref12_Name.l0 k s (i : Int)) (isName s)
  | 0, i, hi, hj => by
    have hb : badRune s = false := by
      rw [Bool.eq_false_iff]
      intro h
      obtain ⟨j, h1, h2⟩ := (bad_iff s).1 h
      rw [hj j (by omega)] at h2; cases h2
    have e1 : ¬ (i : Int) < (s.size : Int) := by omega
    have e : isName s = (decide (1 ≤ s.size ∧ s.size ≤ 32 ∧ 97 ≤ bt s 0 ∧ bt s 0 ≤ 122) && !isKw s) := by unfold isName; rw [hb]; simp
    rw [e]
    by_cases h1 : (s.size : Int) ≥ 1
    · by_cases h2 : (s.size : Int) ≤ 32
      · by_cases h3 : bt s 0 ≥ 97
        · by_cases h4 : bt s 0 ≤ 122
          · rw [decide_eq_true (by omega), Bool.true_and]
            refine Ev.step (f := fun k => (saplingref12_Keyword.f k s).bind fun t => some (!t)) (fun k => ?_) (Ev.bind (ref_kw s) (Ev.now _))
            simp only [saplingref12_Name.l0]; rw [if_neg e1, if_pos h1, if_pos h2, if_pos (by omega), if_pos h3, if_pos h4]
          · rw [decide_eq_false (by omega), Bool.false_and]
            refine Ev.step (f := fun k => some false) (fun k => ?_) (Ev.now _)
            simp only [saplingref12_Name.l0]; rw [if_neg e1, if_pos h1, if_pos h2, if_pos (by omega), if_pos h3, if_neg h4]
        · rw [decide_eq_false (by omega), Bool.false_and]
          refine Ev.step (f := fun k => some false) (fun k => ?_) (Ev.now _)
          simp only [saplingref12_Name.l0]; rw [if_neg e1, if_pos h1, if_pos h2, if_pos (by omega), if_neg h3]
      · rw [decide_eq_false (by omega), Bool.false_and]
        refine Ev.step (f := fun k => some false) (fun k => ?_) (Ev.now _)
        simp only [saplingref12_Name.l0]; rw [if_neg e1, if_pos h1, if_neg h2]
    · rw [decide_eq_false (by omega), Bool.false_and]
      refine Ev.step (f := fun k => some false) (fun k => ?_) (Ev.now _)
      simp only [saplingref12_Name.l0]; rw [if_neg e1, if_neg h1]
  | d + 1, i, hi, hj => by
    have e1 : (i : Int) < (s.size : Int) := by omega
    have hw : wrap64 ((i : Int) + 1) = ((i + 1 : Nat) : Int) := by unfold wrap64; omega
    cases hl : letterB (bt s i)
    · have hb : badRune s = true := (bad_iff s).2 ⟨i, by omega, hl⟩
      have e : isName s = false := by unfold isName; rw [hb]; simp
      rw [e]
      refine Ev.step (f := fun k => some false) (fun k => ?_) (Ev.now _)
      simp only [saplingref12_Name.l0]; rw [if_pos e1, if_pos (by omega), ref_letter, hl]; rfl
    · refine Ev.step (f := fun k => saplingref12_Name.l0 k s ((i + 1 : Nat) : Int)) (fun k => ?_) (ref_name_l0 s hs d (i + 1) (by omega) fun j h => ?_)
      · simp only [saplingref12_Name.l0]; rw [if_pos e1, if_pos (by omega), ref_letter, hl, hw]; rfl
      · rcases Nat.lt_or_ge j i with h' | h'
        · exact hj j h'
        · have : j = i := by omega
          subst this; exact hl
/-- THE REFERENCE's NAME. -/
theorem ref_name (s : ByteArray) (hs : s.size ≤ 140737488355328) : Ev (fun k => saplingref12_Name.f k s) (isName s) :=
  ref_name_l0 s hs s.size 0 (by omega) fun j h => by omega
end Go.Proofs.YtijgifinhbbmaaaGreatDoor
/- The reference's Good is the program's. No program in sight. -/
set_option linter.unusedVariables false
set_option linter.unusedSimpArgs false
namespace Go.Proofs.YtijgifinhbbmaaaGreatDoor
open Go.RowKit Go.Proofs.YtijgifinhbbmaaaGreatDoorW.PrintWords Go.Proofs.YtijgifinhbbmaaaGreatDoor.Q
theorem ref_p0 {k : Int} {s : ByteArray} {ks : List Ex} (hlen : ks.length ≤ 4000000000) {d : Int} (hd0 : 0 ≤ d) (hd : d < 64)
    (hle : ∀ x ∈ ks, ∀ d l, 0 ≤ l → -1 ≤ cnt x d l ∧ cnt x d l ≤ l) :
    ∀ (r pre : List Ex) (left : Int), ks = pre ++ r → -1 ≤ left → left ≤ 4096 → (∀ x ∈ r, ∀ left, 0 ≤ left → left ≤ 4096 → Ev (fun n => saplingref12_Parts.f n x.f0 x.f1 x.f2 (d + 1) left) (cnt x (d + 1) left)) →
      Ev (fun n => saplingref12_Parts.l0 n d left (ks.length : Int) (pre.length : Int) k s ks) (cntL r (d + 1) left)
  | [], pre, left, he, h0, h1, _ => by
    refine Ev.step (f := fun _ => some left) (fun n => ?_) (Ev.now _)
    simp only [saplingref12_Parts.l0]; rw [if_neg (by rw [he]; simp)]
  | x :: r, pre, left, he, h0, h1, hev => by
    have hlt : (pre.length : Int) < (ks.length : Int) := by rw [he]; simp; omega
    have hlt2 : pre.length < ks.length := by omega
    by_cases hl : 0 ≤ left
    · have hx : rd_T84 ks (pre.length : Int) = x := by rw [he]; simp [rd_T84]
      have hw1 : wrap64 (d + 1) = d + 1 := by unfold wrap64; omega
      have hw2 : wrap64 ((pre.length : Int) + 1) = ((pre ++ [x]).length : Int) := by unfold wrap64; simp; omega
      have hc := hle x (by rw [he]; simp) (d + 1) left hl
      have e : cntL (x :: r) (d + 1) left = cntL r (d + 1) (cnt x (d + 1) left) := by simp only [cntL]; rw [if_pos hl]
      rw [e]
      refine Ev.step (f := fun n => (saplingref12_Parts.f n x.f0 x.f1 x.f2 (d + 1) left).bind fun t => saplingref12_Parts.l0 n d t (ks.length : Int) ((pre ++ [x]).length : Int) k s ks) (fun n => ?_) ?_
      · simp only [saplingref12_Parts.l0]; rw [if_pos hlt, if_pos hl, if_pos (by omega), if_pos hlt, hx, hw1, hw2]
      · exact Ev.bind (hev x (List.mem_cons_self ..) left hl h1) (ref_p0 hlen hd0 hd hle r (pre ++ [x]) _ (by rw [he]; simp) hc.1 (by omega) (fun y hy => hev y (List.mem_cons_of_mem _ hy)))
    · have e : cntL (x :: r) (d + 1) left = left := by simp only [cntL]; rw [if_neg hl]
      rw [e]
      refine Ev.step (f := fun _ => some left) (fun n => ?_) (Ev.now _)
      simp only [saplingref12_Parts.l0]; rw [if_pos hlt, if_neg hl]
theorem ref_bad (d left len : Int) (k : Int) (s : ByteArray) (ks : List Ex) : Ev (fun n => saplingref12_Parts.j0 n d left len true k s ks) (-1) := by
  refine Ev.step (f := fun n => saplingref12_Parts.j1 n d left len true k s ks) (fun n => by simp only [saplingref12_Parts.j0, if_true]) ?_
  refine Ev.step (f := fun n => saplingref12_Parts.j2 n d left len true k s ks) (fun n => by simp only [saplingref12_Parts.j1, if_true]) ?_
  refine Ev.step (f := fun n => saplingref12_Parts.j3 n d left len true k s ks) (fun n => by simp only [saplingref12_Parts.j2, if_true]) ?_
  exact Ev.step (f := fun n => some (-1)) (fun n => by simp only [saplingref12_Parts.j3, if_true]) (Ev.now _)
theorem ref_parts {x : Ex} (hx : AllS x) : ∀ d left, 0 ≤ d → 0 ≤ left → left ≤ 4096 → Ev (fun n => saplingref12_Parts.f n x.f0 x.f1 x.f2 d left) (cnt x d left) := by
  induction hx with
  | mk k s ks h1 h2 h3 ih =>
    intro d left hd hl hl2
    show Ev (fun n => saplingref12_Parts.f n k s ks d left) _
    by_cases k0 : k < 1
    · have e : cnt ⟨k, s, ks⟩ d left = -1 := by
        have : okKind k s ks.length = false := by simp [okKind, show ¬ k = 1 by omega, show ¬ k = 2 by omega, show ¬ k = 3 by omega, show ¬ k = 4 by omega, show ¬ k = 5 by omega]
        simp only [cnt, this]; simp
      rw [e]
      exact Ev.step (f := fun n => saplingref12_Parts.j0 n d left ks.length true k s ks) (fun n => by simp only [saplingref12_Parts.f]; rw [if_pos k0]) (ref_bad _ _ _ _ _ _)
    by_cases k6 : k > 5
    · have e : cnt ⟨k, s, ks⟩ d left = -1 := by
        have : okKind k s ks.length = false := by simp [okKind, show ¬ k = 1 by omega, show ¬ k = 2 by omega, show ¬ k = 3 by omega, show ¬ k = 4 by omega, show ¬ k = 5 by omega]
        simp only [cnt, this]; simp
      rw [e]
      exact Ev.step (f := fun n => saplingref12_Parts.j0 n d left ks.length true k s ks) (fun n => by simp only [saplingref12_Parts.f]; rw [if_neg k0, if_pos k6]) (ref_bad _ _ _ _ _ _)
    by_cases h64 : d ≥ 64
    · have e : cnt ⟨k, s, ks⟩ d left = -1 := by simp only [cnt]; rw [if_neg (show ¬ d < 64 by omega)]; simp
      rw [e]
      exact Ev.step (f := fun n => saplingref12_Parts.j0 n d left ks.length true k s ks) (fun n => by simp only [saplingref12_Parts.f]; rw [if_neg k0, if_neg k6, decide_eq_true h64]) (ref_bad _ _ _ _ _ _)
    have hJ3 : ∀ b : Bool, Ev (fun n => saplingref12_Parts.j3 n d left ks.length b k s ks) (if b = true then -1 else cntL ks (d + 1) (left - 1)) := by
      intro b
      have hw : wrap64 (left - 1) = left - 1 := by unfold wrap64; omega
      cases b
      · rw [if_neg (by decide)]
        refine Ev.step (f := fun n => saplingref12_Parts.l0 n d (left - 1) ks.length 0 k s ks) (fun n => by simp [saplingref12_Parts.j3, hw]) ?_
        exact ref_p0 h2 hd (by omega) (fun x hx => cnt_le (h3 x hx)) ks [] (left - 1) rfl (by omega) (by omega) (fun x hx l a b => ih x hx (d + 1) l (by omega) a b)
      · rw [if_pos rfl]
        exact Ev.step (f := fun _ => some (-1)) (fun n => by simp [saplingref12_Parts.j3]) (Ev.now _)
    have e : cnt ⟨k, s, ks⟩ d left = (if (!okKind k s ks.length) = true then -1 else cntL ks (d + 1) (left - 1)) := by
      simp only [cnt]; rw [if_pos (show d < 64 by omega)]; cases okKind k s ks.length <;> simp
    rw [e]
    refine Ev.step (f := fun n => saplingref12_Parts.j0 n d left ks.length false k s ks) (fun n => by simp only [saplingref12_Parts.f]; rw [if_neg k0, if_neg k6, decide_eq_false h64]) ?_
    have hn := ref_name s h1
    -- the tail from j2 on
    have tail : ∀ b : Bool, b = (!okKind k s ks.length) → (∀ n, saplingref12_Parts.j2 (n + 1) d left ks.length false k s ks = saplingref12_Parts.j3 n d left ks.length b k s ks) →
        Ev (fun n => saplingref12_Parts.j2 n d left ks.length false k s ks) (if (!okKind k s ks.length) = true then -1 else cntL ks (d + 1) (left - 1)) := by
      rintro b rfl h; exact Ev.step h (hJ3 _)
    have tailT : (okKind k s ks.length) = false → Ev (fun n => saplingref12_Parts.j2 n d left ks.length true k s ks) (if (!okKind k s ks.length) = true then -1 else cntL ks (d + 1) (left - 1)) := by
      intro h
      refine Ev.step (f := fun n => saplingref12_Parts.j3 n d left ks.length true k s ks) (fun n => by simp only [saplingref12_Parts.j2, if_true]) ?_
      have := hJ3 true
      rw [h]; simpa using this
    have tailT1 : (okKind k s ks.length) = false → Ev (fun n => saplingref12_Parts.j1 n d left ks.length true k s ks) (if (!okKind k s ks.length) = true then -1 else cntL ks (d + 1) (left - 1)) := by
      intro h
      exact Ev.step (f := fun n => saplingref12_Parts.j2 n d left ks.length true k s ks) (fun n => by simp only [saplingref12_Parts.j1, if_true]) (tailT h)
    have hc : ∀ m : Nat, ((ks.length : Int) = m ↔ ks.length = m) := fun m => by omega
    obtain k1 | k1 | k1 | k1 | k1 : k = 1 ∨ k = 2 ∨ k = 3 ∨ k = 4 ∨ k = 5 := by omega
    · subst k1
      refine Ev.step (f := fun n => saplingref12_Parts.j1 n d left ks.length false 1 s ks) (fun n => by simp [saplingref12_Parts.j0]) ?_
      refine Ev.step (f := fun n => saplingref12_Parts.j2 n d left ks.length false 1 s ks) (fun n => by simp [saplingref12_Parts.j1]) ?_
      by_cases hz : ks.length = 0
      · have hz' : ks = [] := List.length_eq_zero_iff.1 hz
        exact tail false (by simp [okKind, hz]) (fun n => by simp [saplingref12_Parts.j2, hz'])
      · have hz' : (0 : Int) < ks.length := by omega
        exact tail true (by simp [okKind, hz]) (fun n => by simp only [saplingref12_Parts.j2]; rw [if_neg (by decide), if_pos (by decide), if_pos hz'])
    · subst k1
      refine Ev.step (f := fun n => (saplingref12_Name.f n s).bind fun t => saplingref12_Parts.j1 n d left ks.length (!t) 2 s ks) (fun n => by simp [saplingref12_Parts.j0]) ?_
      refine Ev.bind hn ?_
      cases hi : isName s
      · exact tailT1 (by simp [okKind, hi])
      refine Ev.step (f := fun n => saplingref12_Parts.j2 n d left ks.length false 2 s ks) (fun n => by simp [saplingref12_Parts.j1]) ?_
      by_cases hz : ks.length = 0
      · have hz' : ks = [] := List.length_eq_zero_iff.1 hz
        exact tail false (by simp [okKind, hz, hi]) (fun n => by simp [saplingref12_Parts.j2, hz'])
      · have hz' : (0 : Int) < ks.length := by omega
        exact tail true (by simp [okKind, hz, hi]) (fun n => by simp only [saplingref12_Parts.j2]; rw [if_neg (by decide), if_pos (by decide), if_pos hz'])
    · subst k1
      refine Ev.step (f := fun n => saplingref12_Parts.j1 n d left ks.length false 3 s ks) (fun n => by simp [saplingref12_Parts.j0]) ?_
      refine Ev.step (f := fun n => saplingref12_Parts.j2 n d left ks.length (s.toList != ([] : List UInt8)) 3 s ks) (fun n => by simp [saplingref12_Parts.j1]) ?_
      by_cases hs : s.toList = []
      · have hs' : (s.toList != ([] : List UInt8)) = false := by rw [hs]; rfl
        rw [hs']
        by_cases hz : (ks.length : Int) < 2
        · exact tail true (by simp [okKind, hs, show ¬ 2 ≤ ks.length by omega]) (fun n => by simp [saplingref12_Parts.j2, hz])
        · exact tail false (by simp [okKind, hs, show 2 ≤ ks.length by omega]) (fun n => by simp [saplingref12_Parts.j2, hz])
      · have hs' : (s.toList != ([] : List UInt8)) = true := by simpa using hs
        rw [hs']
        exact tailT (by simp [okKind, hs])
    · subst k1
      refine Ev.step (f := fun n => saplingref12_Parts.j1 n d left ks.length false 4 s ks) (fun n => by simp [saplingref12_Parts.j0]) ?_
      refine Ev.step (f := fun n => saplingref12_Parts.j2 n d left ks.length (s.toList != ([] : List UInt8)) 4 s ks) (fun n => by simp [saplingref12_Parts.j1]) ?_
      by_cases hs : s.toList = []
      · have hs' : (s.toList != ([] : List UInt8)) = false := by rw [hs]; rfl
        rw [hs']
        by_cases hz : (ks.length : Int) = 4
        · exact tail false (by simp [okKind, hs, show ks.length = 4 by omega]) (fun n => by simp [saplingref12_Parts.j2, hz])
        · exact tail true (by simp [okKind, hs, show ¬ ks.length = 4 by omega]) (fun n => by simp [saplingref12_Parts.j2, hz])
      · have hs' : (s.toList != ([] : List UInt8)) = true := by simpa using hs
        rw [hs']
        exact tailT (by simp [okKind, hs])
    · subst k1
      refine Ev.step (f := fun n => (saplingref12_Name.f n s).bind fun t => saplingref12_Parts.j1 n d left ks.length (!t) 5 s ks) (fun n => by simp [saplingref12_Parts.j0]) ?_
      refine Ev.bind hn ?_
      cases hi : isName s
      · exact tailT1 (by simp [okKind, hi])
      refine Ev.step (f := fun n => saplingref12_Parts.j2 n d left ks.length false 5 s ks) (fun n => by simp [saplingref12_Parts.j1]) ?_
      by_cases hz : (ks.length : Int) = 2
      · exact tail false (by simp [okKind, hi, show ks.length = 2 by omega]) (fun n => by simp [saplingref12_Parts.j2, hz])
      · have hz' : ((ks.length : Int) != 2) = true := by simpa using hz
        exact tail true (by simp [okKind, hi, show ¬ ks.length = 2 by omega]) (fun n => by simp [saplingref12_Parts.j2, hz', hz])
theorem ref_good {x : Ex} (hx : AllS x) : Ev (fun n => saplingref12_Good.f n x.f0 x.f1 x.f2) (goodB x) := by
  unfold saplingref12_Good.f
  exact Ev.bind (ref_parts hx 0 4096 (by omega) (by omega) (by omega)) (Ev.now _)
end Go.Proofs.YtijgifinhbbmaaaGreatDoor
/- The reference's Mean and Eval are the program's; EvalMeans is true of any expression that memory bears. No program in sight. -/
set_option linter.unusedVariables false
set_option linter.unusedSimpArgs false
namespace Go.Proofs.YtijgifinhbbmaaaGreatDoor
open Go.RowKit Go.Proofs.YtijgifinhbbmaaaGreatDoorW.PrintWords Go.Proofs.YtijgifinhbbmaaaGreatDoor.Q
abbrev RNm := S219
/-- The names in sight, the innermost first; the reference keeps them the other way round. -/
def seen (l : List RNm) : List Nm := l.reverse.map fun y => (y.f0, y.f1)
theorem seen_snoc (l : List RNm) (y : RNm) : seen (l ++ [y]) = (y.f0, y.f1) :: seen l := by simp [seen]
theorem ref_j3 (s : ByteArray) (t : Int) : Ev (fun n => saplingref13_Mean.j3 n t s 0) (resT (fin s t)) := by
  unfold fin
  by_cases h : 256 < s.size
  · rw [if_pos h]
    exact Ev.step (f := fun n => some (⟨#[]⟩, t, 43)) (fun n => by simp only [saplingref13_Mean.j3]; rw [if_pos trivial, if_pos (by omega)]) (Ev.now _)
  · rw [if_neg h]
    exact Ev.step (f := fun n => some (s, t, 0)) (fun n => by simp only [saplingref13_Mean.j3]; rw [if_pos trivial, if_neg (by omega)]) (Ev.now _)
theorem ref_j3_fail (s : ByteArray) (t e : Int) (he : e ≠ 0) : Ev (fun n => saplingref13_Mean.j3 n t s e) (⟨#[]⟩, t, e) :=
  Ev.step (f := fun n => some (⟨#[]⟩, t, e)) (fun n => by simp only [saplingref13_Mean.j3]; rw [if_neg he]) (Ev.now _)
/-- The loop over the names: from one place down. -/
theorem ref_look (l : List RNm) (hl : l.length ≤ 100000) (n : ByteArray) (t k : Int) (ks : List Ex) : ∀ (i : Nat), i ≤ l.length →
    look (seen l) n = look (seen (l.take i)) n → Ev (fun m => saplingref13_Mean.l0 m l t ⟨#[]⟩ 51 ((i : Int) - 1) k n ks) (if (look (seen l) n).2 = true then resT (fin (look (seen l) n).1 t) else (⟨#[]⟩, t, 51))
  | 0, _, h => by
    have e : look (seen l) n = (⟨#[]⟩, false) := by rw [h]; simp [seen, look]
    rw [e, if_neg (by decide)]
    refine Ev.step (f := fun m => saplingref13_Mean.j1 m l t ⟨#[]⟩ 51 (-1) false k n ks) (fun m => by simp only [saplingref13_Mean.l0]; rw [if_neg (by omega)]; rfl) ?_
    refine Ev.step (f := fun m => saplingref13_Mean.j3 m t ⟨#[]⟩ 51) (fun m => by simp only [saplingref13_Mean.j1]; rw [if_neg (by decide)]) ?_
    exact ref_j3_fail _ _ _ (by decide)
  | i + 1, hi, h => by
    have hlt : i < l.length := by omega
    have ht : seen (l.take (i + 1)) = (l[i].f0, l[i].f1) :: seen (l.take i) := by
      rw [List.take_succ_eq_append_getElem hlt]; exact seen_snoc _ _
    have hr : rd_T219 l (i : Int) = l[i] := by simp [rd_T219, List.getD_eq_getElem?_getD, List.getElem?_eq_getElem hlt]
    have e0 : ((i + 1 : Nat) : Int) - 1 = i := by omega
    have hw : wrap64 ((i : Int) - 1) = (i : Int) - 1 := by unfold wrap64; omega
    rw [e0]
    refine Ev.step (f := fun m => saplingref13_Mean.j1 m l t ⟨#[]⟩ 51 i true k n ks) (fun m => by simp only [saplingref13_Mean.l0]; rw [if_pos (by omega)]; rfl) ?_
    by_cases hn : (l[i].f0).toList = n.toList
    · have e : look (seen l) n = (l[i].f1, true) := by rw [h, ht, look, if_pos hn]
      rw [e, if_pos rfl]
      refine Ev.step (f := fun m => saplingref13_Mean.l0 m l t l[i].f1 0 ((i : Int) - 1) k n ks) (fun m => by
        simp only [saplingref13_Mean.j1]; rw [if_pos trivial, if_pos (by omega), if_pos (by omega), hr, if_pos hn, hw]) ?_
      have hj : Ev (fun m => saplingref13_Mean.j1 m l t l[i].f1 0 ((i : Int) - 1) false k n ks) (resT (fin l[i].f1 t)) :=
        Ev.step (f := fun m => saplingref13_Mean.j3 m t l[i].f1 0) (fun m => by simp only [saplingref13_Mean.j1]; rw [if_neg (by decide)]) (ref_j3 _ _)
      by_cases h0 : (i : Int) - 1 ≥ 0
      · exact Ev.step (fun m => by simp only [saplingref13_Mean.l0]; rw [if_pos h0]; rfl) hj
      · exact Ev.step (fun m => by simp only [saplingref13_Mean.l0]; rw [if_neg h0]) hj
    · have e : look (seen l) n = look (seen (l.take i)) n := by rw [h, ht, look, if_neg hn]
      refine Ev.step (f := fun m => saplingref13_Mean.l0 m l t ⟨#[]⟩ 51 ((i : Int) - 1) k n ks) (fun m => by
        simp only [saplingref13_Mean.j1]; rw [if_pos trivial, if_pos (by omega), if_pos (by omega), hr, if_neg hn, hw]) ?_
      exact ref_look l hl n t k ks i (by omega) e
theorem joinV_nil : joinV [] = ⟨#[]⟩ := rfl
theorem joinV_snoc (vs : List ByteArray) (s : ByteArray) : joinV (vs ++ [s]) = joinV vs ++ s := by
  unfold joinV
  rw [join_flat, join_flat]
  apply ByteArray.ext
  simp [ByteArray.data_append]
theorem joinV_size (vs : List ByteArray) (h : ∀ v ∈ vs, v.size ≤ 256) : (joinV vs).size ≤ vs.length * 256 := by
  have := flat_len vs h
  unfold joinV; rw [join_flat]
  simpa [ByteArray.size] using this
/-- What the reference's Mean answers of an expression. -/
def RefM (x : Ex) : Prop := ∀ (l : List RNm) (t : Int), 0 ≤ t → t ≤ 1000 → (l.length : Int) ≤ t → (∀ y ∈ l, y.f1.size ≤ 256) → Ev (fun n => saplingref13_Mean.f n x.f0 x.f1 x.f2 l t) (resT (mean x (seen l) t))
theorem ref_cat {ks : List Ex} (hlen : ks.length ≤ 4000000000) (l : List RNm) (hl : ∀ y ∈ l, y.f1.size ≤ 256) : ∀ (r pre : List Ex) (vs : List ByteArray) (t : Int), ks = pre ++ r → 0 ≤ t → t ≤ 1000 → (l.length : Int) ≤ t → (vs.length : Int) ≤ t → (∀ v ∈ vs, v.size ≤ 256) →
    (∀ x ∈ r, RefM x ∧ Shape x) → Ev (fun n => saplingref13_Mean.l1 n l t (joinV vs) 0 ks (ks.length : Int) (pre.length : Int)) (resT (meanCat r (seen l) t vs))
  | [], pre, vs, t, he, h0, h1, h2, h3, h4, _ => by
    rw [meanCat]
    exact Ev.step (f := fun n => saplingref13_Mean.j3 n t (joinV vs) 0) (fun n => by simp only [saplingref13_Mean.l1]; rw [if_neg (by rw [he]; simp)]) (ref_j3 _ _)
  | x :: r, pre, vs, t, he, h0, h1, h2, h3, h4, hk => by
    have hlt : (pre.length : Int) < (ks.length : Int) := by rw [he]; simp; omega
    have hx : rd_T84 ks (pre.length : Int) = x := by rw [he]; simp [rd_T84]
    have hw2 : wrap64 ((pre.length : Int) + 1) = ((pre ++ [x]).length : Int) := by unfold wrap64; simp; omega
    have hM := (hk x (List.mem_cons_self ..)).1 l t h0 h1 h2 hl
    have hF := mean_fits (hk x (List.mem_cons_self ..)).2 (seen l) t
    rw [meanCat_cons]
    refine Ev.step (f := fun n => (saplingref13_Mean.f n x.f0 x.f1 x.f2 l t).bind fun b => (if b.2.2 = 0 then (if (joinV vs).size + b.1.size ≤ 9223372036854775807 then (saplingref13_Mean.l1 n l b.2.1 (joinV vs ++ b.1) b.2.2 ks (ks.length : Int) ((pre ++ [x]).length : Int)) else none) else some (⟨#[]⟩, b.2.1, b.2.2))) (fun n => by
      simp only [saplingref13_Mean.l1]; rw [if_pos hlt, if_pos (by omega), if_pos hlt, hx, hw2]) (Ev.bind hM ?_)
    cases hm : mean x (seen l) t with
    | fail e u =>
      rw [hm] at hF
      have h0 : ¬ e = 0 := by have := hF.2.2; omega
      exact Ev.congr (fun n => if_neg h0) (Ev.now _)
    | ok s u =>
      rw [hm] at hF
      obtain ⟨f1, f2, f3⟩ := hF
      have hsz := joinV_size vs h4
      have hz2 : (joinV vs).size + s.size ≤ 9223372036854775807 := by omega
      refine Ev.congr (fun n => (if_pos rfl).trans (if_pos hz2)) ?_
      rw [← joinV_snoc]
      show Ev (fun n => saplingref13_Mean.l1 n l u (joinV (vs ++ [s])) 0 ks (ks.length : Int) ((pre ++ [x]).length : Int)) (resT (meanCat r (seen l) u (vs ++ [s])))
      refine ref_cat hlen l hl r (pre ++ [x]) (vs ++ [s]) u (by rw [he]; simp) (by omega) (f2 h1) (by omega) (by simp; omega) (fun v hv => ?_) (fun y hy => hk y (List.mem_cons_of_mem _ hy))
      rcases List.mem_append.1 hv with hv | hv
      · exact h4 v hv
      · obtain rfl := List.mem_singleton.1 hv; exact f3
theorem ref_fail_bind {g : Nat → Option (ByteArray × Int × Int)} {f : Nat → (ByteArray × Int × Int) → Option (ByteArray × Int × Int)} {R : Res} (hg : Ev g (resT R)) {h : ByteArray → Int → Res}
    (hf : ∀ e u, R = .fail e u → Ev (fun n => f n (⟨#[]⟩, u, e)) (⟨#[]⟩, u, e)) (ho : ∀ s u, R = .ok s u → Ev (fun n => f n (s, u, 0)) (resT (h s u))) : Ev (fun n => (g n).bind (f n)) (resT (R.andThen h)) := by
  refine Ev.bind hg ?_
  cases R with
  | fail e u => exact hf e u rfl
  | ok s u => exact ho s u rfl
theorem ref_last {g : Nat → Option (ByteArray × Int × Int)} {R : Res} {t : Int} (hg : Ev g (resT R)) (hF : Fits t R) : Ev (fun n => (g n).bind fun b => saplingref13_Mean.j3 n b.2.1 b.1 b.2.2) (resT R) := by
  refine Ev.bind hg ?_
  cases R with
  | fail e u =>
    have h0 : ¬ e = 0 := by have := hF.2.2; omega
    exact ref_j3_fail ⟨#[]⟩ u e h0
  | ok s u =>
    have h := ref_j3 s u
    have e : fin s u = .ok s u := by unfold fin; rw [if_neg (by have := hF.2.2; omega)]
    rw [e] at h
    exact h
theorem ref_mean {x : Ex} (hx : Shape x) : AllS x → RefM x := by
  have full : ∀ (k : Int) (s : ByteArray) (ks : List Ex) (l : List RNm) (t : Int), t = 1000 → Ev (fun n => saplingref13_Mean.f n k s ks l t) (resT (mean ⟨k, s, ks⟩ (seen l) t)) := fun k s ks l t ht => by
    subst ht; rw [mean_full]
    exact Ev.step (f := fun n => some (⟨#[]⟩, 1000, 52)) (fun n => by simp only [saplingref13_Mean.f]; rw [if_pos trivial]) (Ev.now _)
  have wt : ∀ t : Int, 0 ≤ t → t ≤ 1000 → wrap64 (t + 1) = t + 1 := fun t h0 h1 => by unfold wrap64; omega
  induction hx with
  | text s ks =>
    intro hA l t h0 h1 h2 hl
    by_cases ht : t = 1000
    · exact full 1 s ks l t ht
    · have e : mean ⟨1, s, ks⟩ (seen l) t = fin s (t + 1) := by simp only [mean, if_neg ht, if_true]
      rw [e]
      exact Ev.step (f := fun n => saplingref13_Mean.j3 n (t + 1) s 0) (fun n => by simp only [saplingref13_Mean.f]; rw [if_neg ht, if_pos trivial, wt t h0 h1]) (ref_j3 _ _)
  | name s ks =>
    intro hA l t h0 h1 h2 hl
    by_cases ht : t = 1000
    · exact full 2 s ks l t ht
    · have e : resT (mean ⟨2, s, ks⟩ (seen l) t) = (if (look (seen l) s).2 = true then resT (fin (look (seen l) s).1 (t + 1)) else (⟨#[]⟩, t + 1, 51)) := by
        simp only [mean, if_neg ht, if_true, show ¬ (2 : Int) = 1 by decide, if_false]
        split
        · rfl
        · rfl
      rw [e]
      have hw : wrap64 ((l.length : Int) - 1) = (l.length : Int) - 1 := by unfold wrap64; omega
      refine Ev.step (f := fun n => saplingref13_Mean.l0 n l (t + 1) ⟨#[]⟩ 51 ((l.length : Int) - 1) 2 s ks) (fun n => by simp only [saplingref13_Mean.f]; rw [if_neg ht, if_neg (by decide), if_pos trivial, wt t h0 h1, hw]) ?_
      exact ref_look l (by omega) s (t + 1) 2 ks l.length (Nat.le_refl _) (by rw [List.take_length])
  | cat s ks h hk ih =>
    intro hA l t h0 h1 h2 hl
    by_cases ht : t = 1000
    · exact full 3 s ks l t ht
    · rw [mean_cat ht]
      cases hA with
      | mk _ _ _ a1 a2 a3 =>
      refine Ev.step (f := fun n => saplingref13_Mean.l1 n l (t + 1) ⟨#[]⟩ 0 ks (ks.length : Int) 0) (fun n => by simp only [saplingref13_Mean.f]; rw [if_neg ht, if_neg (by decide), if_neg (by decide), if_pos trivial, wt t h0 h1]) ?_
      exact ref_cat a2 l hl ks [] [] (t + 1) rfl (by omega) (by omega) (by omega) (by simp; omega) (by simp) (fun x hx => ⟨ih x hx (a3 x hx), hk x hx⟩)
  | ife s a b c d ha hb hc hd iha ihb ihc ihd =>
    intro hA l t h0 h1 h2 hl
    by_cases ht : t = 1000
    · exact full 4 s [a, b, c, d] l t ht
    · rw [mean_if ht]
      cases hA with
      | mk _ _ _ a1 a2 a3 =>
      have qa := iha (a3 a (by simp)) l (t + 1) (by omega) (by omega) (by omega) hl
      have fa := mean_fits ha (seen l) (t + 1)
      refine Ev.step (f := fun n => (saplingref13_Mean.f n a.f0 a.f1 a.f2 l (t + 1)).bind fun bt186 => (if bt186.2.2 = 0 then ((saplingref13_Mean.f n b.f0 b.f1 b.f2 l bt186.2.1).bind fun bt190 => (if bt190.2.2 = 0 then (if bt186.1.toList = bt190.1.toList then ((saplingref13_Mean.f n c.f0 c.f1 c.f2 l bt190.2.1).bind fun b => (saplingref13_Mean.j3 n b.2.1 b.1 b.2.2)) else ((saplingref13_Mean.f n d.f0 d.f1 d.f2 l bt190.2.1).bind fun b => (saplingref13_Mean.j3 n b.2.1 b.1 b.2.2))) else (some (⟨#[]⟩, bt190.2.1, bt190.2.2)))) else (some (⟨#[]⟩, bt186.2.1, bt186.2.2)))) (fun n => by
        simp only [saplingref13_Mean.f]; rw [if_neg ht, if_neg (by decide), if_neg (by decide), if_neg (by decide), if_pos trivial, wt t h0 h1]; rfl) ?_
      refine ref_fail_bind qa (fun e u hu => ?_) (fun s1 u hu => ?_)
      · rw [hu] at fa; have h0 : ¬ e = 0 := (by have := fa.2.2; omega); exact Ev.congr (fun n => if_neg h0) (Ev.now _)
      rw [hu] at fa
      obtain ⟨f1, f2, f3⟩ := fa
      have f2' := f2 (by omega)
      simp only [if_true]
      have qb := ihb (a3 b (by simp)) l u (by omega) f2' (by omega) hl
      have fb := mean_fits hb (seen l) u
      refine ref_fail_bind qb (fun e v hv => ?_) (fun s2 v hv => ?_)
      · rw [hv] at fb; have h0 : ¬ e = 0 := (by have := fb.2.2; omega); exact Ev.congr (fun n => if_neg h0) (Ev.now _)
      rw [hv] at fb
      obtain ⟨g1, g2, g3⟩ := fb
      have g2' := g2 f2'
      simp only [if_true]
      by_cases he : s1.toList = s2.toList
      · simp only [if_pos he]
        exact ref_last (ihc (a3 c (by simp)) l v (by omega) g2' (by omega) hl) (mean_fits hc (seen l) v)
      · simp only [if_neg he]
        exact ref_last (ihd (a3 d (by simp)) l v (by omega) g2' (by omega) hl) (mean_fits hd (seen l) v)
  | lete s a b ha hb iha ihb =>
    intro hA l t h0 h1 h2 hl
    by_cases ht : t = 1000
    · exact full 5 s [a, b] l t ht
    · rw [mean_let ht]
      cases hA with
      | mk _ _ _ a1 a2 a3 =>
      have qa := iha (a3 a (by simp)) l (t + 1) (by omega) (by omega) (by omega) hl
      have fa := mean_fits ha (seen l) (t + 1)
      refine Ev.step (f := fun n => (saplingref13_Mean.f n a.f0 a.f1 a.f2 l (t + 1)).bind fun bt202 => (if bt202.2.2 = 0 then ((saplingref13_Mean.f n b.f0 b.f1 b.f2 (l ++ [⟨s, bt202.1⟩]) bt202.2.1).bind fun b => (saplingref13_Mean.j3 n b.2.1 b.1 b.2.2)) else (some (⟨#[]⟩, bt202.2.1, bt202.2.2)))) (fun n => by
        simp only [saplingref13_Mean.f]; rw [if_neg ht, if_neg (by decide), if_neg (by decide), if_neg (by decide), if_neg (by decide), if_pos trivial, wt t h0 h1]
        have b1 : l.length < 4398046511104 := by omega
        have b2 : l.length + 1 < 4398046511104 := by omega
        simp [b1, b2, rd_T84]) ?_
      refine ref_fail_bind qa (fun e u hu => ?_) (fun s1 u hu => ?_)
      · rw [hu] at fa; have h0 : ¬ e = 0 := (by have := fa.2.2; omega); exact Ev.congr (fun n => if_neg h0) (Ev.now _)
      rw [hu] at fa
      obtain ⟨f1, f2, f3⟩ := fa
      have f2' := f2 (by omega)
      simp only [if_true]
      have qb := ihb (a3 b (by simp)) (l ++ [⟨s, s1⟩]) u (by omega) f2' (by simp; omega) (fun y hy => by
        rcases List.mem_append.1 hy with hy | hy
        · exact hl y hy
        · obtain rfl := List.mem_singleton.1 hy; exact f3)
      rw [seen_snoc] at qb
      exact ref_last qb (mean_fits hb _ u)
theorem ref_eval {x : Ex} (hx : AllS x) : Ev (fun n => saplingref13_Eval.f n x.f0 x.f1 x.f2) (evalT x) := by
  unfold saplingref13_Eval.f evalT
  refine Ev.bind (ref_good hx) ?_
  cases hg : goodB x
  · simp only [Bool.false_eq_true, if_false]; exact Ev.now _
  · simp only [if_true]
    exact Ev.bind (ref_mean (shape_of_good hx hg) hx [] 0 (by decide) (by decide) (by decide) (by simp)) (Ev.now _)
theorem means_f {x : Ex} (hx : WS x) : ∃ k, saplinglaw13_EvalMeans.f k x.f0 x.f1 x.f2 = some true := by
  have hw1 := ev_w hx 16384 0 (by decide) (by decide) (by decide) (by decide)
  have h : Ev (fun n => saplinglaw13_EvalMeans.f n x.f0 x.f1 x.f2) true := by
    unfold saplinglaw13_EvalMeans.f saplinglaw13_alive.f
    simp only [Option.bind_some, if_true]
    refine Ev.bind hw1 ?_
    by_cases h1 : wv x 16384 0 < 0
    · simp only [if_pos h1]; exact Ev.now _
    · have hA := allS_of_wv hx 16384 0 (by decide) (by decide) (by omega)
      simp only [if_neg h1, eval_f hA, Option.bind_some]
      refine Ev.bind (ref_eval hA) ?_
      simp only [if_true, beq_self_eq_true]
      exact Ev.now _
  exact h.rounds
end Go.Proofs.YtijgifinhbbmaaaGreatDoor
