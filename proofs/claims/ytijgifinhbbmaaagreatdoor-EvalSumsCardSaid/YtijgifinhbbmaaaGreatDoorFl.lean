/- The plain laws of EvalIfs, EvalSums, EvalLets. No program in sight. -/
import Derived.Test.YtijgifinhbbmaaaGreatDoorF
import Derived.Test.YtijgifinhbbmaaaGreatDoorXE
import Derived.Test.YtijgifinhbbmaaaGreatDoorPW
import Derived.Test.YtijgifinhbbmaaaGreatDoorQ123
set_option linter.unusedVariables false
set_option linter.unusedSimpArgs false
namespace Go.Proofs.YtijgifinhbbmaaaGreatDoor
open Go.RowKit Go.Proofs.YtijgifinhbbmaaaGreatDoorW.PrintWords Go.Proofs.YtijgifinhbbmaaaGreatDoor.Q
theorem evalT_free {x : Ex} (hx : AllS x) (hg : goodB x = true) : evalT x = resT ((free x [] 0).clip) := by
  unfold evalT; rw [if_pos hg, mean_clip (shape_of_good hx hg) [] 0 (by decide)]
theorem evalT_ok {x : Ex} (hx : AllS x) (hg : goodB x = true) (h : (evalT x).2.2 = 0) : ∃ s u, free x [] 0 = .ok s u ∧ 0 < u ∧ u ≤ 1000 ∧ evalT x = (s, u, 0) := by
  rw [evalT_free hx hg] at h ⊢
  have hn := free_n (shape_of_good hx hg) [] 0
  cases hf : free x [] 0 with
  | fail e u =>
    rw [hf] at h
    have hc := free_code (shape_of_good hx hg) [] 0 e u hf
    simp only [Res.clip] at h
    split at h
    · simp only [resT] at h; omega
    · simp [resT] at h
  | ok s u =>
    rw [hf] at h hn
    simp only [Res.clip] at h ⊢
    split at h
    · next hu => exact ⟨s, u, rfl, hn, hu, by rw [if_pos hu]; rfl⟩
    · simp [resT] at h
/-- What a meaning from turn m on comes to, told by what it comes to from none. -/
theorem clip_plus {R : Res} {m : Int} (hm : 0 ≤ m) (hc : ∀ e u, R = .fail e u → e ≠ 52) :
    (1000 < m + (resT R.clip).2.1 → (resT ((R.plus m).clip)).2.2 = 52) ∧
    (¬ 1000 < m + (resT R.clip).2.1 → (resT ((R.plus m).clip)).1 = (resT R.clip).1 ∧ (resT ((R.plus m).clip)).2.2 = (resT R.clip).2.2 ∧ (resT ((R.plus m).clip)).2.1 = m + (resT R.clip).2.1 ∨ (m = 0 ∧ (resT R.clip).2.1 = 1000 ∧ (resT R.clip).2.2 = 52) ∧ (resT ((R.plus m).clip)) = resT R.clip) := by
  cases R with
  | fail e u =>
    simp only [Res.plus, Res.clip]
    by_cases h1 : u ≤ 1000
    · rw [if_pos h1]
      by_cases h2 : u + m ≤ 1000
      · rw [if_pos h2]; simp only [resT]; exact ⟨fun h => by omega, fun _ => .inl ⟨trivial, trivial, by omega⟩⟩
      · rw [if_neg h2]; simp only [resT]; exact ⟨fun _ => trivial, fun h => by omega⟩
    · rw [if_neg h1, if_neg (by omega)]; simp only [resT]
      exact ⟨fun _ => trivial, fun h => .inr ⟨⟨by omega, trivial, trivial⟩, trivial⟩⟩
  | ok s u =>
    simp only [Res.plus, Res.clip]
    by_cases h1 : u ≤ 1000
    · rw [if_pos h1]
      by_cases h2 : u + m ≤ 1000
      · rw [if_pos h2]; simp only [resT]; exact ⟨fun h => by omega, fun _ => .inl ⟨trivial, trivial, by omega⟩⟩
      · rw [if_neg h2]; simp only [resT]; exact ⟨fun _ => trivial, fun h => by omega⟩
    · rw [if_neg h1, if_neg (by omega)]; simp only [resT]
      exact ⟨fun _ => trivial, fun h => .inr ⟨⟨by omega, trivial, trivial⟩, trivial⟩⟩
theorem evalT_fit {x : Ex} (hx : AllS x) : 0 ≤ (evalT x).2.1 ∧ (evalT x).2.1 ≤ 1000 ∧ (evalT x).1.size ≤ 256 := by
  unfold evalT
  split
  · next hg =>
    have h := mean_fits (shape_of_good hx hg) [] 0
    cases hm : mean x [] 0 with
    | fail e t =>
      rw [hm] at h
      exact ⟨h.1, h.2.1 (by decide), Nat.zero_le _⟩
    | ok s t =>
      rw [hm] at h
      exact ⟨Int.le_of_lt h.1, h.2.1 (by decide), h.2.2⟩
  · exact ⟨by decide, by decide, by decide⟩
/-! EvalIfs -/
def ifX (a b c d : Ex) : Ex := ⟨4, ⟨#[]⟩, [a, b, c, d]⟩
theorem ifs_law {a b c d k : Ex} (hA : AllS (ifX a b c d)) (hg : goodB (ifX a b c d) = true) (e0 : (evalT a).2.2 = 0) (f0 : (evalT b).2.2 = 0)
    (hk : k = if (evalT a).1.toList = (evalT b).1.toList then c else d) :
    (1000 < 1 + (evalT a).2.1 + (evalT b).2.1 + (evalT k).2.1 → (evalT (ifX a b c d)).2.2 = 52) ∧
    (¬ 1000 < 1 + (evalT a).2.1 + (evalT b).2.1 + (evalT k).2.1 → (evalT (ifX a b c d)).1 = (evalT k).1 ∧ (evalT (ifX a b c d)).2.2 = (evalT k).2.2 ∧ (evalT (ifX a b c d)).2.1 = 1 + (evalT a).2.1 + (evalT b).2.1 + (evalT k).2.1) := by
  have hS := shape_of_good hA hg
  have h3 : ∀ y ∈ [a, b, c, d], AllS y := by cases hA; assumption
  have gk : ∀ y ∈ [a, b, c, d], goodB y = true := fun y hy => good_kid hA hg hy
  obtain ⟨s1, i, fa, i0, i1, ea⟩ := evalT_ok (h3 a (by simp)) (gk a (by simp)) e0
  obtain ⟨s2, j, fb, j0, j1, eb⟩ := evalT_ok (h3 b (by simp)) (gk b (by simp)) f0
  have km : k ∈ [a, b, c, d] := by rw [hk]; split <;> simp
  have hSa := shape_of_good (h3 a (by simp)) (gk a (by simp))
  have hSb := shape_of_good (h3 b (by simp)) (gk b (by simp))
  have hSk := shape_of_good (h3 k km) (gk k km)
  have fx : free (ifX a b c d) [] 0 = (free k [] 0).plus (1 + i + j) := by
    unfold ifX
    rw [free_if, show (0 : Int) + 1 = 0 + 1 from rfl, free_plus hSa 1 [] 0, fa]
    simp only [Res.plus, Res.andThen]
    rw [show i + 1 = 0 + (i + 1) by omega, free_plus hSb (i + 1) [] 0, fb]
    simp only [Res.plus, Res.andThen]
    have e : (if s1.toList = s2.toList then free c [] (j + (i + 1)) else free d [] (j + (i + 1))) = free k [] (0 + (1 + i + j)) := by
      rw [hk, ea, eb]
      simp only
      rw [show j + (i + 1) = 0 + (1 + i + j) by omega]
      split <;> rfl
    rw [e, free_plus hSk]; rfl
  have ek := evalT_free (h3 k km) (gk k km)
  have ex := evalT_free hA hg
  rw [fx] at ex
  have hcp := clip_plus (R := free k [] 0) (m := 1 + i + j) (by omega) (fun e u hu => by have := free_code hSk [] 0 e u hu; omega)
  rw [← ex, ← ek] at hcp
  rw [ea, eb]
  simp only
  refine ⟨fun h => hcp.1 h, fun h => ?_⟩
  rcases hcp.2 h with h | h
  · exact h
  · omega
/-! EvalSums -/
def sumX (ks : List Ex) : Ex := ⟨3, ⟨#[]⟩, ks⟩
theorem sum_start (ks : List Ex) : free (sumX ks) [] 0 = freeCat ks [] 1 [] := by unfold sumX; rw [free_cat]; rfl
theorem sum_step {X k : Ex} {r : List Ex} {b : Int} {vs : List ByteArray} (hk : AllS k) (gk : goodB k = true) (h : free X [] 0 = freeCat (k :: r) [] b vs) (e0 : (evalT k).2.2 = 0) :
    free X [] 0 = freeCat r [] (b + (evalT k).2.1) (vs ++ [(evalT k).1]) := by
  obtain ⟨s, u, fk, u0, u1, ek⟩ := evalT_ok hk gk e0
  rw [h, freeCat_cons, show b = 0 + b by omega, free_plus (shape_of_good hk gk) b [] 0, fk, ek]
  simp only [Res.plus, Res.andThen]
  rw [show u + b = 0 + b + u by omega]
theorem sum_fail {X k : Ex} {r : List Ex} {b : Int} {vs : List ByteArray} (hX : AllS X) (gX : goodB X = true) (hk : AllS k) (gk : goodB k = true) (hr : ∀ y ∈ r, Shape y) (hb : 0 ≤ b)
    (h : free X [] 0 = freeCat (k :: r) [] b vs) (e0 : (evalT k).2.2 ≠ 0) : (evalT X).2.2 ≠ 0 := by
  have hSk := shape_of_good hk gk
  rw [freeCat_cons, show b = 0 + b by omega, free_plus hSk b [] 0] at h
  rw [evalT_free hk gk] at e0
  rw [evalT_free hX gX, h]
  cases hf : free k [] 0 with
  | fail e u =>
    have hc := free_code hSk [] 0 e u hf
    simp only [Res.plus, Res.andThen, Res.clip]
    split
    · simp only [resT]; omega
    · simp [resT]
  | ok s u =>
    rw [hf] at e0
    simp only [Res.clip] at e0
    split at e0
    · simp [resT] at e0
    · next hu =>
      simp only [Res.plus, Res.andThen]
      have := freeCat_n r (fun y hy sees t => free_n (hr y hy) sees t) [] (u + b) (vs ++ [s])
      rw [clip_over (by omega)]
      simp [resT]
theorem sum_end {X : Ex} {b : Int} {vs : List ByteArray} (hX : AllS X) (gX : goodB X = true) (h : free X [] 0 = freeCat [] [] b vs) :
    (1000 < b → (evalT X).2.2 = 52) ∧ (¬ 1000 < b → 256 < (joinV vs).size → (evalT X).2.2 = 43 ∧ (evalT X).2.1 = b) ∧ (¬ 1000 < b → ¬ 256 < (joinV vs).size → evalT X = (joinV vs, b, 0)) := by
  rw [evalT_free hX gX, h, freeCat]
  refine ⟨fun hb => ?_, fun hb hs => ?_, fun hb hs => ?_⟩
  · rw [clip_over (by rw [fin_n]; exact hb)]; rfl
  · rw [clip_fin (by omega)]; unfold fin; rw [if_pos hs]; exact ⟨rfl, rfl⟩
  · rw [clip_fin (by omega)]; unfold fin; rw [if_neg hs]; rfl
/-! EvalLets -/
mutual
def putS : Ex → ByteArray → ByteArray → Ex
  | ⟨k, n, ks⟩, name, s => if k = 2 ∧ n.toList = name.toList then tx s else ⟨k, n, putL ks (decide (k = 5 ∧ n.toList = name.toList)) 0 name s⟩
def putL : List Ex → Bool → Nat → ByteArray → ByteArray → List Ex
  | [], _, _, _, _ => []
  | x :: r, b, i, name, s => (if b = true ∧ i = 1 then x else putS x name s) :: putL r b (i + 1) name s
end
theorem putL_len : ∀ (r : List Ex) (b : Bool) (i : Nat) (name s : ByteArray), (putL r b i name s).length = r.length
  | [], _, _, _, _ => rfl
  | x :: r, b, i, name, s => by simp [putL, putL_len r b (i + 1) name s]
theorem putL_all (name s : ByteArray) : ∀ (r : List Ex) (b : Bool) (i : Nat), (∀ x ∈ r, AllS x ∧ AllS (putS x name s)) → ∀ y ∈ putL r b i name s, AllS y
  | [], _, _, _, y, hy => by simp [putL] at hy
  | x :: r, b, i, h, y, hy => by
    rw [putL] at hy
    rcases List.mem_cons.1 hy with rfl | hy
    · split
      · exact (h x (List.mem_cons_self ..)).1
      · exact (h x (List.mem_cons_self ..)).2
    · exact putL_all name s r b (i + 1) (fun z hz => h z (List.mem_cons_of_mem _ hz)) y hy
theorem putS_all {x : Ex} (hx : AllS x) (name s : ByteArray) (hs : s.size ≤ 256) : AllS (putS x name s) := by
  induction hx with
  | mk k n ks h1 h2 h3 ih =>
    rw [putS]
    split
    · exact .mk _ _ _ (by omega) (by decide) (by simp)
    · exact .mk _ _ _ h1 (by rw [putL_len]; exact h2) (putL_all name s ks _ 0 fun x hx => ⟨h3 x hx, ih x hx⟩)
theorem putL_cnt (name s : ByteArray) : ∀ (r : List Ex) (b : Bool) (i : Nat), (∀ x ∈ r, AllS x) → (∀ x ∈ r, ∀ d l, 0 ≤ l → 0 ≤ cnt x d l → cnt (putS x name s) d l = cnt x d l) → ∀ d l, 0 ≤ cntL r d l → cntL (putL r b i name s) d l = cntL r d l
  | [], _, _, _, _, d, l, _ => rfl
  | x :: r, b, i, hr, h, d, l, h0 => by
    simp only [putL, cntL] at h0 ⊢
    by_cases hl : 0 ≤ l
    · rw [if_pos hl] at h0
      rw [if_pos hl, if_pos hl]
      have h1 := cnt_le (hr x (List.mem_cons_self ..)) d l hl
      have h2 := (cntL_le r (fun z hz => cnt_le (hr z (List.mem_cons_of_mem _ hz))) d _ h1.1).2
      have e : cnt (if b = true ∧ i = 1 then x else putS x name s) d l = cnt x d l := by
        split
        · rfl
        · exact h x (List.mem_cons_self ..) d l hl (by omega)
      rw [e]
      exact putL_cnt name s r b (i + 1) (fun z hz => hr z (List.mem_cons_of_mem _ hz)) (fun z hz => h z (List.mem_cons_of_mem _ hz)) d _ h0
    · rw [if_neg hl] at h0; exact absurd h0 hl
theorem putS_cnt {x : Ex} (hx : AllS x) (name s : ByteArray) : ∀ d l, 0 ≤ l → 0 ≤ cnt x d l → cnt (putS x name s) d l = cnt x d l := by
  induction hx with
  | mk k n ks h1 h2 h3 ih =>
    intro d l hl h0
    rw [putS]
    simp only [cnt] at h0
    split at h0
    · next hok =>
      split at h0
      · next hd =>
        split
        · next hk =>
          have hk0 : ks.length = 0 := by
            have hk2 := hk.1
            subst hk2
            simp only [okKind, Bool.or_eq_true, Bool.and_eq_true, decide_eq_true_eq] at hok
            omega
          have hks : ks = [] := List.length_eq_zero_iff.1 hk0
          subst hks
          have e1 : okKind 1 s 0 = true := rfl
          simp only [tx, cnt, List.length_nil, e1, hok, hd, if_true, cntL]
          have hok' : okKind k n 0 = true := hok
          rw [if_pos hok']
        · simp only [cnt, putL_len, hok, hd, if_true]
          exact putL_cnt name s ks _ 0 h3 (fun x hx => ih x hx) (d + 1) (l - 1) h0
      · omega
    · omega
theorem putS_good {x : Ex} (hx : AllS x) (name s : ByteArray) (h : goodB x = true) : goodB (putS x name s) = true := by
  have h0 : 0 ≤ cnt x 0 4096 := of_decide_eq_true h
  unfold goodB
  rw [putS_cnt hx name s 0 4096 (by decide) h0]; exact h
/-- What an expression means hangs on what names stand for. -/
theorem free_look {x : Ex} (hx : Shape x) : ∀ (l l' : List Nm) (t : Int), (∀ n, look l n = look l' n) → free x l t = free x l' t := by
  have hcons : ∀ (y : Nm) (l l' : List Nm), (∀ n, look l n = look l' n) → ∀ n, look (y :: l) n = look (y :: l') n := fun y l l' h n => by
    simp only [look]; split
    · rfl
    · exact h n
  induction hx with
  | text s ks => intro l l' t _; rw [free_text, free_text]
  | name s ks => intro l l' t h; rw [free_name, free_name, h]
  | cat s ks h0 hk ih =>
    intro l l' t h
    rw [free_cat, free_cat]
    have go : ∀ (r : List Ex), (∀ x ∈ r, ∀ (l l' : List Nm) (t : Int), (∀ n, look l n = look l' n) → free x l t = free x l' t) → ∀ t vs, freeCat r l t vs = freeCat r l' t vs := by
      intro r
      induction r with
      | nil => intro _ t vs; rw [freeCat, freeCat]
      | cons x r ihr =>
        intro hr t vs
        rw [freeCat_cons, freeCat_cons, hr x (List.mem_cons_self ..) l l' t h]
        congr 1
        funext s u
        exact ihr (fun y hy => hr y (List.mem_cons_of_mem _ hy)) u _
    exact go ks (fun x hx => ih x hx) (t + 1) []
  | ife s a b c d ha hb hc hd iha ihb ihc ihd =>
    intro l l' t h
    rw [free_if, free_if, iha l l' _ h]
    congr 1; funext s1 u
    rw [ihb l l' _ h]
    congr 1; funext s2 v
    rw [ihc l l' _ h, ihd l l' _ h]
  | lete s a b ha hb iha ihb =>
    intro l l' t h
    rw [free_let, free_let, iha l l' _ h]
    congr 1; funext s1 u
    exact ihb _ _ u (hcons (s, s1) l l' h)
/-- A TEXT IN THE PLACE OF A NAME. -/
theorem free_put {x : Ex} (hx : Shape x) (name s : ByteArray) : ∀ (l l' : List Nm) (t : Int), (∀ n, look l n = if n.toList = name.toList then (s, true) else look l' n) → free x l t = free (putS x name s) l' t := by
  induction hx with
  | text n ks => intro l l' t _; rw [putS, if_neg (by omega), free_text, free_text]
  | name n ks =>
    intro l l' t h
    rw [putS]
    by_cases hn : n.toList = name.toList
    · rw [if_pos ⟨rfl, hn⟩, free_name, h, if_pos hn]
      simp only [if_true]
      unfold tx; rw [free_text]
    · rw [if_neg (fun h => hn h.2), free_name, free_name, h, if_neg hn]
  | cat n ks h0 hk ih =>
    intro l l' t h
    rw [putS, if_neg (by omega), free_cat, free_cat]
    have go : ∀ (r : List Ex) (i : Nat), (∀ x ∈ r, ∀ (l l' : List Nm) (t : Int), (∀ n, look l n = if n.toList = name.toList then (s, true) else look l' n) → free x l t = free (putS x name s) l' t) → ∀ t vs, freeCat r l t vs = freeCat (putL r false i name s) l' t vs := by
      intro r
      induction r with
      | nil => intro i _ t vs; rw [putL, freeCat, freeCat]
      | cons x r ihr =>
        intro i hr t vs
        rw [putL, if_neg (by simp), freeCat_cons, freeCat_cons, hr x (List.mem_cons_self ..) l l' t h]
        congr 1
        funext s u
        exact ihr (i + 1) (fun y hy => hr y (List.mem_cons_of_mem _ hy)) u _
    rw [decide_eq_false (show ¬ ((3 : Int) = 5 ∧ n.toList = name.toList) from fun h => absurd h.1 (by decide))]
    exact go ks 0 (fun x hx => ih x hx) (t + 1) []
  | ife n a b c d ha hb hc hd iha ihb ihc ihd =>
    intro l l' t h
    rw [putS, if_neg (by omega), decide_eq_false (show ¬ ((4 : Int) = 5 ∧ n.toList = name.toList) from fun h => absurd h.1 (by decide))]
    simp only [putL, Bool.false_eq_true, false_and, if_false]
    rw [free_if, free_if, iha l l' _ h]
    congr 1; funext s1 u
    rw [ihb l l' _ h]
    congr 1; funext s2 v
    rw [ihc l l' _ h, ihd l l' _ h]
  | lete n a b ha hb iha ihb =>
    intro l l' t h
    rw [putS, if_neg (by omega)]
    by_cases hn : n.toList = name.toList
    · rw [decide_eq_true (show ((5 : Int) = 5 ∧ n.toList = name.toList) from ⟨rfl, hn⟩)]
      have e : putL [a, b] true 0 name s = [putS a name s, b] := by simp [putL]
      rw [e, free_let, free_let, iha l l' _ h]
      congr 1; funext s1 u
      refine free_look hb _ _ u fun m => ?_
      simp only [look]
      by_cases hm : n.toList = m.toList
      · rw [if_pos hm, if_pos hm]
      · rw [if_neg hm, if_neg hm, h, if_neg (fun e => hm (hn.trans e.symm))]
    · rw [decide_eq_false (show ¬ ((5 : Int) = 5 ∧ n.toList = name.toList) from fun h => hn h.2)]
      have e : putL [a, b] false 0 name s = [putS a name s, putS b name s] := by simp [putL]
      rw [e, free_let, free_let, iha l l' _ h]
      congr 1; funext s1 u
      refine ihb _ _ u fun m => ?_
      simp only [look]
      by_cases hm : n.toList = m.toList
      · rw [if_pos hm, if_pos hm, if_neg (fun e => hn (hm.trans e))]
      · rw [if_neg hm, if_neg hm, h]
def letX (name s : ByteArray) (x : Ex) : Ex := ⟨5, name, [tx s, x]⟩
theorem lets_law {name s : ByteArray} {x : Ex} (hA : AllS (letX name s x)) (hg : goodB (letX name s x) = true) (hs : s.size ≤ 256) :
    AllS (putS x name s) ∧ ((evalT (letX name s x)).2.2 = 52 ∨ (evalT (putS x name s)).2.2 = 52 → (evalT (putS x name s)).2.1 + 2 ≥ 1000) ∧
    (¬ ((evalT (letX name s x)).2.2 = 52 ∨ (evalT (putS x name s)).2.2 = 52) → (evalT (letX name s x)).1 = (evalT (putS x name s)).1 ∧ (evalT (letX name s x)).2.1 = (evalT (putS x name s)).2.1 + 2 ∧ (evalT (letX name s x)).2.2 = (evalT (putS x name s)).2.2) := by
  have h3 : ∀ y ∈ [tx s, x], AllS y := by cases hA; assumption
  have gx := good_kid hA hg (x := x) (by simp)
  have hx := h3 x (by simp)
  have hp := putS_all hx name s hs
  have gp := putS_good hx name s gx
  have hSp := shape_of_good hp gp
  have fx : free (letX name s x) [] 0 = (free (putS x name s) [] 0).plus 2 := by
    unfold letX
    rw [free_let]
    have e : free (tx s) [] (0 + 1) = .ok s 2 := by unfold tx; rw [free_text]; unfold fin; rw [if_neg (by omega)]; rfl
    rw [e]
    show free x [(name, s)] 2 = _
    rw [free_put (shape_of_good hx gx) name s [(name, s)] [] 2 (fun n => ?_), show (2 : Int) = 0 + 2 from rfl, free_plus hSp]
    · rfl
    · simp only [look]
      by_cases hn : name.toList = n.toList
      · rw [if_pos hn, if_pos hn.symm]
      · rw [if_neg hn, if_neg (fun e => hn e.symm)]
  have ep := evalT_free hp gp
  have el := evalT_free hA hg
  rw [fx] at el
  refine ⟨hp, ?_⟩
  rw [el, ep]
  cases hf : free (putS x name s) [] 0 with
  | fail e u =>
    have hc := free_code hSp [] 0 e u hf
    simp only [Res.plus, Res.clip]
    by_cases h1 : u ≤ 1000
    · rw [if_pos h1]
      by_cases h2 : u + 2 ≤ 1000
      · rw [if_pos h2]; simp only [resT]; exact ⟨fun h => by omega, fun _ => ⟨trivial, trivial, trivial⟩⟩
      · rw [if_neg h2]; simp only [resT]; exact ⟨fun h => by omega, fun h => (h (Or.inl trivial)).elim⟩
    · rw [if_neg h1, if_neg (by omega)]; simp only [resT]; exact ⟨fun h => by omega, fun h => (h (Or.inl trivial)).elim⟩
  | ok v u =>
    simp only [Res.plus, Res.clip]
    by_cases h1 : u ≤ 1000
    · rw [if_pos h1]
      by_cases h2 : u + 2 ≤ 1000
      · rw [if_pos h2]; simp only [resT]; exact ⟨fun h => by omega, fun _ => ⟨trivial, trivial, trivial⟩⟩
      · rw [if_neg h2]; simp only [resT]; exact ⟨fun h => by omega, fun h => (h (Or.inl trivial)).elim⟩
    · rw [if_neg h1, if_neg (by omega)]; simp only [resT]; exact ⟨fun h => by omega, fun h => (h (Or.inl trivial)).elim⟩
theorem exEta (x : Ex) : (⟨x.f0, x.f1, x.f2⟩ : Ex) = x := by cases x; rfl
/-- The printed put. -/
theorem put_l0 {name s : ByteArray} {k : Int} {n : ByteArray} {ks : List Ex} (hlen : ks.length ≤ 4000000000) (hk2 : ¬ (k = 2 ∧ n.toList = name.toList)) : ∀ (r pre acc : List Ex), ks = pre ++ r → acc.length = pre.length →
    (∀ x ∈ r, Ev (fun m => saplinglaw13_put.f m x.f0 x.f1 x.f2 name s) ((putS x name s).f0, (putS x name s).f1, (putS x name s).f2)) →
    Ev (fun m => saplinglaw13_put.l0 m name s ks (ks.length : Int) (pre.length : Int) k n ks k n acc) (k, n, acc ++ putL r (decide (k = 5 ∧ n.toList = name.toList)) pre.length name s)
  | [], pre, acc, he, ha, _ => by
    have e : acc ++ putL [] (decide (k = 5 ∧ n.toList = name.toList)) pre.length name s = acc := by simp [putL]
    rw [e]
    exact Ev.step (f := fun _ => some (k, n, acc)) (fun m => by simp only [saplinglaw13_put.l0]; rw [if_neg (by rw [he]; simp)]) (Ev.now _)
  | x :: r, pre, acc, he, ha, hx => by
    have hlt : (pre.length : Int) < (ks.length : Int) := by rw [he]; simp; omega
    have hr : rd_T84 ks (pre.length : Int) = x := by rw [he]; simp [rd_T84]
    have hw2 : wrap64 ((pre.length : Int) + 1) = ((pre ++ [x]).length : Int) := by unfold wrap64; simp; omega
    have ha2 : acc.length < 2932031007402 := by have : pre.length < ks.length := by omega
                                                omega
    have rec_ := fun y => put_l0 hlen hk2 r (pre ++ [x]) (acc ++ [y]) (by rw [he]; simp) (by simp [ha]) (fun z hz => hx z (List.mem_cons_of_mem _ hz))
    have hev := hx x (List.mem_cons_self ..)
    have go2 : ∀ b : Bool, b = decide (k = 5 ∧ n.toList = name.toList) → ¬ (b = true ∧ pre.length = 1) → (∀ m, saplinglaw13_put.l0 (m + 1) name s ks (ks.length : Int) (pre.length : Int) k n ks k n acc =
        (saplinglaw13_put.f m x.f0 x.f1 x.f2 name s).bind fun bt => (if acc.length < 2932031007402 then (saplinglaw13_put.l0 m name s ks (ks.length : Int) ((pre ++ [x]).length : Int) k n ks k n (acc ++ [(⟨bt.1, bt.2.1, bt.2.2⟩ : Ex)])) else none)) →
        Ev (fun m => saplinglaw13_put.l0 m name s ks (ks.length : Int) (pre.length : Int) k n ks k n acc) (k, n, acc ++ putL (x :: r) (decide (k = 5 ∧ n.toList = name.toList)) pre.length name s) := by
      intro b hb hb1 hs
      refine Ev.step hs (Ev.bind hev ?_)
      refine Ev.congr (fun m => if_pos ha2) ?_
      have := rec_ (putS x name s)
      rw [putL, if_neg (by rw [← hb]; exact hb1)]
      rw [List.append_assoc, List.length_append, List.length_singleton] at this
      change Ev (fun m => saplinglaw13_put.l0 m name s ks (ks.length : Int) ((pre ++ [x]).length : Int) k n ks k n (acc ++ [(⟨(putS x name s).f0, (putS x name s).f1, (putS x name s).f2⟩ : Ex)])) _
      rw [exEta]
      simpa using this
    by_cases k5 : k = 5
    · by_cases hn : n.toList = name.toList
      · by_cases h1 : (pre.length : Int) = 1
        · refine Ev.step (f := fun m => saplinglaw13_put.l0 m name s ks (ks.length : Int) ((pre ++ [x]).length : Int) k n ks k n (acc ++ [x])) (fun m => by
            simp only [saplinglaw13_put.l0]; rw [if_pos hlt, if_pos (by omega), if_pos hlt, if_pos k5, if_pos hn, if_pos h1, if_pos ha2, hw2, hr, exEta]) ?_
          have := rec_ x
          rw [putL, if_pos ⟨decide_eq_true ⟨k5, hn⟩, by omega⟩]
          rw [List.append_assoc, List.length_append, List.length_singleton] at this
          simpa using this
        · exact go2 _ rfl (fun h => h1 (by omega)) fun m => by
            simp only [saplinglaw13_put.l0]; rw [if_pos hlt, if_pos (by omega), if_pos hlt, if_pos k5, if_pos hn, if_neg h1, hw2, hr]
      · exact go2 _ rfl (fun h => hn (of_decide_eq_true h.1).2) fun m => by
          simp only [saplinglaw13_put.l0]; rw [if_pos hlt, if_pos (by omega), if_pos hlt, if_pos k5, if_neg hn, hw2, hr]
    · exact go2 _ rfl (fun h => k5 (of_decide_eq_true h.1).1) fun m => by
        simp only [saplinglaw13_put.l0]; rw [if_pos hlt, if_pos (by omega), if_pos hlt, if_neg k5, hw2, hr]
theorem ev_put {x : Ex} (hx : AllS x) (name s : ByteArray) : Ev (fun m => saplinglaw13_put.f m x.f0 x.f1 x.f2 name s) ((putS x name s).f0, (putS x name s).f1, (putS x name s).f2) := by
  induction hx with
  | mk k n ks h1 h2 h3 ih =>
    show Ev (fun m => saplinglaw13_put.f m k n ks name s) _
    have fin : ∀ b : Bool, b = decide (k = 2 ∧ n.toList = name.toList) → (∀ m, saplinglaw13_put.f (m + 1) k n ks name s = saplinglaw13_put.j0 m name s b k n ks) → Ev (fun m => saplinglaw13_put.f m k n ks name s) ((putS ⟨k, n, ks⟩ name s).f0, (putS ⟨k, n, ks⟩ name s).f1, (putS ⟨k, n, ks⟩ name s).f2) := by
      intro b hb hs
      refine Ev.step hs ?_
      rw [putS]
      by_cases h : k = 2 ∧ n.toList = name.toList
      · rw [if_pos h, hb, decide_eq_true h]
        exact Ev.step (f := fun m => some (1, s, [])) (fun m => by simp only [saplinglaw13_put.j0, if_true]; rfl) (Ev.now _)
      · rw [if_neg h, hb, decide_eq_false h]
        refine Ev.step (f := fun m => saplinglaw13_put.l0 m name s ks (ks.length : Int) 0 k n ks k n []) (fun m => by simp only [saplinglaw13_put.j0, Bool.false_eq_true, if_false]) ?_
        exact put_l0 h2 h ks [] [] rfl rfl (fun x hx => ih x hx)
    by_cases k2 : k = 2
    · exact fin (n.toList == name.toList) (by by_cases h : n.toList = name.toList <;> simp [k2, h]) fun m => by simp only [saplinglaw13_put.f]; rw [if_pos k2]
    · exact fin false (by simp [k2]) fun m => by simp only [saplinglaw13_put.f]; rw [if_neg k2]
end Go.Proofs.YtijgifinhbbmaaaGreatDoor
