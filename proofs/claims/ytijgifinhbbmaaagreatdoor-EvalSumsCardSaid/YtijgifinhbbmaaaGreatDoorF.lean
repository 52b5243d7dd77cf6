/- What an expression means, were there no end of turns; the turns' end laid over it. No program in sight. -/
import Derived.Test.YtijgifinhbbmaaaGreatDoorG
set_option linter.unusedVariables false
set_option linter.unusedSimpArgs false
namespace Go.Proofs.YtijgifinhbbmaaaGreatDoor
open Go.RowKit Go.Proofs.YtijgifinhbbmaaaGreatDoorW.PrintWords Go.Proofs.YtijgifinhbbmaaaGreatDoor.Q
mutual
def free : Ex → List Nm → Int → Res
  | ⟨k, s, kids⟩, sees, t =>
    if k = 1 then fin s (t + 1)
    else if k = 2 then (if (look sees s).2 = true then fin (look sees s).1 (t + 1) else .fail 51 (t + 1))
    else if k = 3 then freeCat kids sees (t + 1) []
    else if k = 4 then freeIf kids sees (t + 1)
    else freeLet kids s sees (t + 1)
def freeCat : List Ex → List Nm → Int → List ByteArray → Res
  | [], _, t, vs => fin (joinV vs) t
  | x :: r, sees, t, vs => match free x sees t with
    | .fail e t => .fail e t
    | .ok s t => freeCat r sees t (vs ++ [s])
def freeIf : List Ex → List Nm → Int → Res
  | [a, b, c, d], sees, t => match free a sees t with
    | .fail e t => .fail e t
    | .ok s1 t => match free b sees t with
      | .fail e t => .fail e t
      | .ok s2 t => if s1.toList = s2.toList then free c sees t else free d sees t
  | _, _, t => .fail 0 t
def freeLet : List Ex → ByteArray → List Nm → Int → Res
  | [a, b], n, sees, t => match free a sees t with
    | .fail e t => .fail e t
    | .ok s1 t => free b ((n, s1) :: sees) t
  | _, _, _, t => .fail 0 t
end
def Res.n : Res → Int
  | .fail _ t => t
  | .ok _ t => t
def Res.plus (m : Int) : Res → Res
  | .fail e t => .fail e (t + m)
  | .ok s t => .ok s (t + m)
def Res.clip : Res → Res
  | .fail e t => if t ≤ 1000 then .fail e t else .fail 52 1000
  | .ok s t => if t ≤ 1000 then .ok s t else .fail 52 1000
theorem clip_over {R : Res} (h : 1000 < R.n) : R.clip = .fail 52 1000 := by
  cases R <;> (simp only [Res.n] at h; simp only [Res.clip]; rw [if_neg (by omega)])
theorem clip_fin {s : ByteArray} {t : Int} (h : t ≤ 1000) : (fin s t).clip = fin s t := by
  unfold fin; split <;> (simp only [Res.clip]; rw [if_pos h])
theorem fin_n {s : ByteArray} {t : Int} : (fin s t).n = t := by unfold fin; split <;> rfl
theorem plus_fin {s : ByteArray} {t m : Int} : (fin s t).plus m = fin s (t + m) := by unfold fin; split <;> rfl
theorem clip_then {R : Res} {g h : ByteArray → Int → Res} (hg : ∀ s u, u ≤ 1000 → g s u = (h s u).clip) (hn : ∀ s u, u ≤ (h s u).n) : R.clip.andThen g = (R.andThen h).clip := by
  cases R with
  | fail e t =>
    simp only [Res.clip, Res.andThen]
    by_cases ht : t ≤ 1000
    · rw [if_pos ht]
    · rw [if_neg ht]
  | ok s t =>
    simp only [Res.clip]
    by_cases ht : t ≤ 1000
    · rw [if_pos ht]; exact hg s t ht
    · rw [if_neg ht]
      show Res.fail 52 1000 = (h s t).clip
      rw [clip_over (by have := hn s t; omega)]
theorem then_n {R : Res} {h : ByteArray → Int → Res} (hn : ∀ s u, u ≤ (h s u).n) : R.n ≤ (R.andThen h).n := by
  cases R with
  | fail e t => exact Int.le_refl _
  | ok s t => exact hn s t
theorem plus_then {R : Res} {m : Int} {g h : ByteArray → Int → Res} (hg : ∀ s u, g s (u + m) = (h s u).plus m) : (R.plus m).andThen g = (R.andThen h).plus m := by
  cases R with
  | fail e t => rfl
  | ok s t => exact hg s t
theorem freeCat_cons {x : Ex} {r : List Ex} {sees : List Nm} {t : Int} {vs : List ByteArray} : freeCat (x :: r) sees t vs = (free x sees t).andThen fun s t => freeCat r sees t (vs ++ [s]) := by
  rw [freeCat]; cases free x sees t <;> rfl
theorem free_if {s : ByteArray} {a b c d : Ex} {sees : List Nm} {t : Int} : free ⟨4, s, [a, b, c, d]⟩ sees t =
    (free a sees (t + 1)).andThen fun s1 t => (free b sees t).andThen fun s2 t => if s1.toList = s2.toList then free c sees t else free d sees t := by
  simp only [free, show ¬ (4 : Int) = 1 by decide, show ¬ (4 : Int) = 2 by decide, show ¬ (4 : Int) = 3 by decide, if_false, if_true, freeIf]
  cases free a sees (t + 1) with
  | fail e u => rfl
  | ok s1 u => simp only [Res.andThen]; cases free b sees u <;> rfl
theorem free_let {s : ByteArray} {a b : Ex} {sees : List Nm} {t : Int} : free ⟨5, s, [a, b]⟩ sees t = (free a sees (t + 1)).andThen fun s1 t => free b ((s, s1) :: sees) t := by
  simp only [free, show ¬ (5 : Int) = 1 by decide, show ¬ (5 : Int) = 2 by decide, show ¬ (5 : Int) = 3 by decide, show ¬ (5 : Int) = 4 by decide, if_false, freeLet]
  cases free a sees (t + 1) <;> rfl
theorem free_cat {s : ByteArray} {ks : List Ex} {sees : List Nm} {t : Int} : free ⟨3, s, ks⟩ sees t = freeCat ks sees (t + 1) [] := by
  simp only [free, show ¬ (3 : Int) = 1 by decide, show ¬ (3 : Int) = 2 by decide, if_false, if_true]
theorem free_text {s : ByteArray} {ks : List Ex} {sees : List Nm} {t : Int} : free ⟨1, s, ks⟩ sees t = fin s (t + 1) := by simp only [free, if_true]
theorem free_name {s : ByteArray} {ks : List Ex} {sees : List Nm} {t : Int} : free ⟨2, s, ks⟩ sees t = if (look sees s).2 = true then fin (look sees s).1 (t + 1) else .fail 51 (t + 1) := by
  simp only [free, show ¬ (2 : Int) = 1 by decide, if_false, if_true]
theorem freeCat_n : ∀ (r : List Ex), (∀ x ∈ r, ∀ sees t, t < (free x sees t).n) → ∀ sees t vs, t ≤ (freeCat r sees t vs).n
  | [], _, sees, t, vs => by rw [freeCat, fin_n]; exact Int.le_refl _
  | x :: r, h, sees, t, vs => by
    rw [freeCat_cons]
    have h1 := h x (List.mem_cons_self ..) sees t
    have h2 := then_n (R := free x sees t) (h := fun s t => freeCat r sees t (vs ++ [s])) fun s u => freeCat_n r (fun y hy => h y (List.mem_cons_of_mem _ hy)) sees u (vs ++ [s])
    omega
theorem free_n {x : Ex} (hx : Shape x) : ∀ sees t, t < (free x sees t).n := by
  induction hx with
  | text s ks => intro sees t; rw [free_text, fin_n]; omega
  | name s ks =>
    intro sees t
    rw [free_name]
    split
    · rw [fin_n]; omega
    · show t < t + 1; omega
  | cat s ks h hk ih => intro sees t; rw [free_cat]; have := freeCat_n ks (fun x hx => ih x hx) sees (t + 1) []; omega
  | ife s a b c d ha hb hc hd iha ihb ihc ihd =>
    intro sees t
    rw [free_if]
    have h1 := iha sees (t + 1)
    have h2 := then_n (R := free a sees (t + 1)) (h := fun s1 t => (free b sees t).andThen fun s2 t => if s1.toList = s2.toList then free c sees t else free d sees t) fun s1 u => by
      have h3 := ihb sees u
      have h4 := then_n (R := free b sees u) (h := fun s2 t => if s1.toList = s2.toList then free c sees t else free d sees t) fun s2 v => by
        split
        · have := ihc sees v; omega
        · have := ihd sees v; omega
      omega
    omega
  | lete s a b ha hb iha ihb =>
    intro sees t
    rw [free_let]
    have h1 := iha sees (t + 1)
    have h2 := then_n (R := free a sees (t + 1)) (h := fun s1 t => free b ((s, s1) :: sees) t) fun s1 u => by have := ihb ((s, s1) :: sees) u; omega
    omega
theorem freeCat_plus (m : Int) : ∀ (r : List Ex), (∀ x ∈ r, ∀ sees t, free x sees (t + m) = (free x sees t).plus m) → ∀ sees t vs, freeCat r sees (t + m) vs = (freeCat r sees t vs).plus m
  | [], _, sees, t, vs => by rw [freeCat, freeCat, plus_fin]
  | x :: r, h, sees, t, vs => by
    rw [freeCat_cons, freeCat_cons, h x (List.mem_cons_self ..) sees t]
    exact plus_then fun s u => freeCat_plus m r (fun y hy => h y (List.mem_cons_of_mem _ hy)) sees u (vs ++ [s])
theorem free_plus {x : Ex} (hx : Shape x) (m : Int) : ∀ sees t, free x sees (t + m) = (free x sees t).plus m := by
  have e : ∀ t : Int, t + m + 1 = t + 1 + m := fun t => by omega
  induction hx with
  | text s ks => intro sees t; rw [free_text, free_text, plus_fin, e]
  | name s ks =>
    intro sees t
    rw [free_name, free_name]
    split
    · rw [plus_fin, e]
    · rw [e]; rfl
  | cat s ks h hk ih => intro sees t; rw [free_cat, free_cat, e]; exact freeCat_plus m ks (fun x hx => ih x hx) sees (t + 1) []
  | ife s a b c d ha hb hc hd iha ihb ihc ihd =>
    intro sees t
    rw [free_if, free_if, e, iha]
    refine plus_then fun s1 u => ?_
    rw [ihb]
    refine plus_then fun s2 v => ?_
    split
    · exact ihc sees v
    · exact ihd sees v
  | lete s a b ha hb iha ihb =>
    intro sees t
    rw [free_let, free_let, e, iha]
    exact plus_then fun s1 u => ihb ((s, s1) :: sees) u
theorem meanCat_clip : ∀ (r : List Ex), (∀ x ∈ r, Shape x) → (∀ x ∈ r, ∀ sees t, t ≤ 1000 → mean x sees t = (free x sees t).clip) → ∀ sees t vs, t ≤ 1000 → meanCat r sees t vs = (freeCat r sees t vs).clip
  | [], _, _, sees, t, vs, ht => by rw [meanCat, freeCat, clip_fin ht]
  | x :: r, hr, h, sees, t, vs, ht => by
    rw [meanCat_cons, freeCat_cons, h x (List.mem_cons_self ..) sees t ht]
    exact clip_then (fun s u hu => meanCat_clip r (fun y hy => hr y (List.mem_cons_of_mem _ hy)) (fun y hy => h y (List.mem_cons_of_mem _ hy)) sees u _ hu)
      fun s u => freeCat_n r (fun y hy sees t => free_n (hr y (List.mem_cons_of_mem _ hy)) sees t) sees u _
/-- THE BOUND IS LAID OVER WHAT THERE WOULD BE WITHOUT IT. -/
theorem mean_clip {x : Ex} (hx : Shape x) : ∀ sees t, t ≤ 1000 → mean x sees t = (free x sees t).clip := by
  have full : ∀ {x : Ex} (hx : Shape x) sees t, t = 1000 → mean x sees t = (free x sees t).clip := fun hx sees t ht => by
    subst ht; rw [mean_full, clip_over (free_n hx sees 1000)]
  induction hx with
  | text s ks =>
    intro sees t ht
    by_cases h : t = 1000
    · exact full (.text s ks) sees t h
    · rw [free_text, clip_fin (by omega)]; simp only [mean, if_neg h, if_true]
  | name s ks =>
    intro sees t ht
    by_cases h : t = 1000
    · exact full (.name s ks) sees t h
    · rw [free_name]; simp only [mean, if_neg h, if_true, show ¬ (2 : Int) = 1 by decide, if_false]
      split
      · rw [clip_fin (by omega)]
      · simp only [Res.clip]; rw [if_pos (by omega)]
  | cat s ks h hk ih =>
    intro sees t ht
    by_cases h' : t = 1000
    · exact full (.cat s ks h hk) sees t h'
    · rw [mean_cat h', free_cat]; exact meanCat_clip ks hk (fun x hx => ih x hx) sees (t + 1) [] (by omega)
  | ife s a b c d ha hb hc hd iha ihb ihc ihd =>
    intro sees t ht
    by_cases h : t = 1000
    · exact full (.ife s a b c d ha hb hc hd) sees t h
    · rw [mean_if h, free_if, iha _ _ (by omega)]
      refine clip_then (fun s1 u hu => ?_) fun s1 u => ?_
      · rw [ihb _ _ hu]
        refine clip_then (fun s2 v hv => ?_) fun s2 v => ?_
        · split
          · exact ihc sees v hv
          · exact ihd sees v hv
        · split
          · exact Int.le_of_lt (free_n hc sees v)
          · exact Int.le_of_lt (free_n hd sees v)
      · refine Int.le_trans (Int.le_of_lt (free_n hb sees u)) (then_n fun s2 v => ?_)
        split
        · exact Int.le_of_lt (free_n hc sees v)
        · exact Int.le_of_lt (free_n hd sees v)
  | lete s a b ha hb iha ihb =>
    intro sees t ht
    by_cases h : t = 1000
    · exact full (.lete s a b ha hb) sees t h
    · rw [mean_let h, free_let, iha _ _ (by omega)]
      exact clip_then (fun s1 u hu => ihb _ u hu) fun s1 u => Int.le_of_lt (free_n hb _ u)
/-- Codes of what goes wrong. -/
theorem free_code {x : Ex} (hx : Shape x) : ∀ sees t e u, free x sees t = .fail e u → e = 43 ∨ e = 51 := by
  have hf : ∀ (s : ByteArray) (t : Int) e u, fin s t = .fail e u → e = 43 ∨ e = 51 := fun s t e u h => by
    unfold fin at h; split at h
    · cases h; exact .inl rfl
    · cases h
  have ht : ∀ (R : Res) (g : ByteArray → Int → Res), (∀ e u, R = .fail e u → e = 43 ∨ e = 51) → (∀ s v e u, g s v = .fail e u → e = 43 ∨ e = 51) → ∀ e u, R.andThen g = .fail e u → e = 43 ∨ e = 51 := fun R g h1 h2 e u h => by
    cases R with
    | fail e' t => exact h1 e u h
    | ok s t => exact h2 s t e u h
  induction hx with
  | text s ks => intro sees t; rw [free_text]; exact hf _ _
  | name s ks =>
    intro sees t e u h
    rw [free_name] at h
    split at h
    · exact hf _ _ _ _ h
    · cases h; exact .inr rfl
  | cat s ks h hk ih =>
    intro sees t
    rw [free_cat]
    have go : ∀ (r : List Ex), (∀ x ∈ r, ∀ sees t e u, free x sees t = .fail e u → e = 43 ∨ e = 51) → ∀ t vs e u, freeCat r sees t vs = .fail e u → e = 43 ∨ e = 51 := by
      intro r
      induction r with
      | nil => intro _ t vs e u h; rw [freeCat] at h; exact hf _ _ _ _ h
      | cons x r ihr =>
        intro hr t vs
        rw [freeCat_cons]
        exact ht _ _ (hr x (List.mem_cons_self ..) sees t) fun s v => ihr (fun y hy => hr y (List.mem_cons_of_mem _ hy)) v _
    exact go ks (fun x hx => ih x hx) (t + 1) []
  | ife s a b c d ha hb hc hd iha ihb ihc ihd =>
    intro sees t
    rw [free_if]
    refine ht _ _ (iha sees _) fun s1 u => ht _ _ (ihb sees _) fun s2 v => ?_
    split
    · exact ihc sees v
    · exact ihd sees v
  | lete s a b ha hb iha ihb =>
    intro sees t
    rw [free_let]
    exact ht _ _ (iha sees _) fun s1 u => ihb _ u
theorem cntL_mono : ∀ (r : List Ex), (∀ x ∈ r, AllS x) → (∀ x ∈ r, ∀ d l d' l', 0 ≤ l → 0 ≤ cnt x d l → d' ≤ d → l ≤ l' → cnt x d' l' = cnt x d l + (l' - l)) →
    ∀ d l d' l', 0 ≤ cntL r d l → d' ≤ d → l ≤ l' → cntL r d' l' = cntL r d l + (l' - l)
  | [], _, _, d, l, d', l', h, hd, hl => by simp only [cntL]; omega
  | x :: r, hr, ih, d, l, d', l', h, hd, hl => by
    simp only [cntL] at h ⊢
    by_cases h0 : 0 ≤ l
    · rw [if_pos h0] at h
      rw [if_pos h0, if_pos (by omega)]
      have h1 := cnt_le (hr x (List.mem_cons_self ..)) d l h0
      have h2 := (cntL_le r (fun z hz => cnt_le (hr z (List.mem_cons_of_mem _ hz))) d _ h1.1).2
      have h3 := ih x (List.mem_cons_self ..) d l d' l' h0 (by omega) hd hl
      have h4 := cntL_mono r (fun y hy => hr y (List.mem_cons_of_mem _ hy)) (fun y hy => ih y (List.mem_cons_of_mem _ hy)) d (cnt x d l) d' (cnt x d' l') h hd (by omega)
      omega
    · rw [if_neg h0] at h; exact absurd h h0
theorem cnt_mono {x : Ex} (hx : AllS x) : ∀ d l d' l', 0 ≤ l → 0 ≤ cnt x d l → d' ≤ d → l ≤ l' → cnt x d' l' = cnt x d l + (l' - l) := by
  induction hx with
  | mk k s ks h1 h2 h3 ih =>
    intro d l d' l' hl h hd hl'
    simp only [cnt] at h ⊢
    by_cases hk : okKind k s ks.length = true
    · rw [if_pos hk] at h
      rw [if_pos hk, if_pos hk]
      by_cases h64 : d < 64
      · rw [if_pos h64] at h
        rw [if_pos h64, if_pos (by omega)]
        have := cntL_mono ks h3 (fun x hx => ih x hx) (d + 1) (l - 1) (d' + 1) (l' - 1) h (by omega) (by omega)
        omega
      · rw [if_neg h64] at h; omega
    · rw [if_neg hk] at h; omega
theorem cntL_kid : ∀ (r : List Ex) (hr : ∀ x ∈ r, AllS x) (d l : Int), l ≤ 4096 → 0 ≤ cntL r d l → ∀ x ∈ r, ∃ l', 0 ≤ l' ∧ l' ≤ 4096 ∧ 0 ≤ cnt x d l'
  | [], _, _, _, _, _, x, hx => by simp at hx
  | y :: r, hr, d, l, hl, h, x, hx => by
    simp only [cntL] at h
    split at h
    · next h0 =>
      have hy := cnt_le (hr y (List.mem_cons_self ..)) d l h0
      have h2 := (cntL_le r (fun z hz => cnt_le (hr z (List.mem_cons_of_mem _ hz))) d _ hy.1).2
      rcases List.mem_cons.1 hx with rfl | hx
      · exact ⟨l, h0, hl, by omega⟩
      · exact cntL_kid r (fun z hz => hr z (List.mem_cons_of_mem _ hz)) d _ (by omega) h x hx
    · omega
/-- A part of what can be can be. -/
theorem good_kid {k : Int} {s : ByteArray} {ks : List Ex} (hx : AllS ⟨k, s, ks⟩) (h : goodB ⟨k, s, ks⟩ = true) {x : Ex} (hm : x ∈ ks) : goodB x = true := by
  have h0 : 0 ≤ cnt ⟨k, s, ks⟩ 0 4096 := of_decide_eq_true h
  cases hx with
  | mk _ _ _ h1 h2 h3 =>
    simp only [cnt] at h0
    split at h0
    · split at h0
      · obtain ⟨l', a, b, c⟩ := cntL_kid ks h3 (0 + 1) (4096 - 1) (by omega) h0 x hm
        have := cnt_mono (h3 x hm) (0 + 1) l' 0 4096 a c (by omega) b
        exact decide_eq_true (by omega)
      · omega
    · omega
end Go.Proofs.YtijgifinhbbmaaaGreatDoor
