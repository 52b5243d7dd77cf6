/- The evaluator's machine in memory: what is told of its block, its stack of frames, and the names that a frame sees. -/
import Derived.Test.YtijgifinhbbmaaaGreatDoorK0
import Derived.Test.YtijgifinhbbmaaaGreatDoorQ0
import Derived.Test.YtijgifinhbbmaaaGreatDoorWKept
import Derived.WalkSmall
import Derived.Deep.AppendLies
import Derived.Deep.RegionHeld3
import Derived.Deep.RegionLaw
set_option linter.unusedVariables false
set_option linter.unusedSimpArgs false
namespace Go.Proofs.YtijgifinhbbmaaaGreatDoor
open Go.RowKit Go.Proofs.YtijgifinhbbmaaaGreatDoorW.PrintWords Go.Proofs.YtijgifinhbbmaaaGreatDoor.Q
abbrev Ex := S84
abbrev kEx := k84
abbrev Nm := ByteArray × ByteArray

/-- The names in sight, the innermost first. -/
def Chain (W : World) : Option Addr → List Nm → Prop
  | p, [] => p = none
  | p, x :: r => ∃ (b : Nat) (q : Option Addr), p = some ⟨b, 0, none⟩ ∧ W.heap[b]? = some (.cells #[.string x.1, .string x.2, .pointer q] 216 (0, 0)) ∧ Chain W q r
/-- No block of S is one of names. -/
def NoNames (W : World) (S : Nat → Prop) : Prop := ∀ b cs, W.heap[b]? = some (.cells cs 216 (0, 0)) → ¬ S b
theorem Chain.kept {W W' : World} {S : Nat → Prop} (hk : Kept W W' S) (hn : NoNames W S) : ∀ {p : Option Addr} {l : List Nm}, Chain W p l → Chain W' p l
  | _, [], h => h
  | _, _ :: _, ⟨b, q, hp, hb, hr⟩ => ⟨b, q, hp, blk_kept hb hk (hn b _ hb), Chain.kept hk hn hr⟩
theorem Chain.below {W W' : World} (hb : Below W.heap.size W W') {p : Option Addr} {l : List Nm} (h : Chain W p l) : Chain W' p l :=
  h.kept (Kept.of_below hb (fun _ => False)) (fun _ _ _ h => h)

structure Fr where
  x : Ex
  vals : List ByteArray
  sees : List Nm
structure St where
  frs : List Fr
  turns : Int
  fault : Int

def FrIs (w0 W : World) (fr : Fr) (cs : List Value) (v : Value) : Prop :=
  ∃ (A : Option Addr) (c : Nat) (p : Option Addr), cs = [.int .i64 fr.x.f0, .string fr.x.f1, .slice A fr.x.f2.length c, v, .pointer p] ∧ fr.x.f2.length ≤ c ∧ kEx.C w0 A fr.x.f2.length fr.x.f2 ∧
    W.ownsRow w0.heap.size 9 1 v fr.vals.length (pw_strs fr.vals) ∧ Chain W p fr.sees
/-- The frames, the last one first; their cells in memory's order. -/
def FrsIs (w0 W : World) : List Fr → List Value → List Value → Prop
  | [], cs, vs => cs = [] ∧ vs = []
  | fr :: r, cs, vs => ∃ c1 c2 v vs', cs = c1 ++ c2 ∧ vs = v :: vs' ∧ FrsIs w0 W r c1 vs' ∧ FrIs w0 W fr c2 v
def Apart (vs : List Value) : Prop := vs.Pairwise fun a b => a.ownBlock = none ∨ a.ownBlock ≠ b.ownBlock
theorem FrIs.kept {w0 W W' : World} {S : Nat → Prop} (hk : Kept W W' S) (hn : NoNames W S) {fr : Fr} {cs : List Value} {v : Value} (hv : ∀ k, v.ownBlock = some k → ¬ S k) (h : FrIs w0 W fr cs v) : FrIs w0 W' fr cs v := by
  obtain ⟨A, c, p, h1, h2, h3, h4, h5⟩ := h
  exact ⟨A, c, p, h1, h2, h3, own_move h4 (fun k hk' => hk.2 k (own_lt h4 k hk') (hv k hk')), h5.kept hk hn⟩
theorem FrsIs.kept {w0 W W' : World} {S : Nat → Prop} (hk : Kept W W' S) (hn : NoNames W S) : ∀ {frs : List Fr} {cs vs : List Value}, (∀ v ∈ vs, ∀ k, v.ownBlock = some k → ¬ S k) → FrsIs w0 W frs cs vs → FrsIs w0 W' frs cs vs
  | [], _, _, _, h => h
  | _ :: _, _, _, hv, ⟨c1, c2, v, vs', h1, h2, h3, h4⟩ => by
    subst h2
    exact ⟨c1, c2, v, vs', h1, rfl, FrsIs.kept hk hn (fun u hu => hv u (List.mem_cons_of_mem _ hu)) h3, h4.kept hk hn (hv v (List.mem_cons_self ..))⟩
theorem FrIs.len {w0 W : World} {fr : Fr} {cs : List Value} {v : Value} (h : FrIs w0 W fr cs v) : cs.length = 5 := by
  obtain ⟨A, c, p, rfl, _⟩ := h; rfl
theorem FrsIs.len {w0 W : World} : ∀ {frs : List Fr} {cs vs : List Value}, FrsIs w0 W frs cs vs → cs.length = frs.length * 5 ∧ vs.length = frs.length
  | [], _, _, ⟨h1, h2⟩ => by subst h1 h2; exact ⟨rfl, rfl⟩
  | _ :: _, _, _, ⟨c1, c2, v, vs', h1, h2, h3, h4⟩ => by
    subst h1 h2
    have a := FrsIs.len h3
    have b := h4.len
    simp [a.1, a.2, b]; omega
/-- A frame's row of values, and its owner's type. -/
theorem FrsIs.own {w0 W : World} : ∀ {frs : List Fr} {cs vs : List Value}, FrsIs w0 W frs cs vs → ∀ v ∈ vs, ∃ n xs, W.ownsRow w0.heap.size 9 1 v n xs
  | [], _, _, ⟨h1, h2⟩, v, hv => by subst h2; simp at hv
  | _ :: _, _, _, ⟨c1, c2, u, vs', h1, h2, h3, h4⟩, v, hv => by
    subst h2
    rcases List.mem_cons.1 hv with rfl | hv
    · obtain ⟨A, c, p, _, _, _, h, _⟩ := h4; exact ⟨_, _, h⟩
    · exact FrsIs.own h3 v hv

/-- THE MACHINE at block M of W; what came in lies in w0. -/
def IsM (w0 W : World) (M : Nat) (st : St) : Prop :=
  ∃ (sv : Value) (cs vs : List Value), W.heap[M]? = some (.cells #[sv, .int .i64 st.turns, .int .i64 st.fault] 155 (0, 0)) ∧ w0.heap.size ≤ M ∧
    W.ownsRow w0.heap.size 213 5 sv st.frs.length cs ∧ FrsIs w0 W st.frs cs vs ∧ Apart vs ∧ Below w0.heap.size w0 W
/-- A block of one type is none of another. -/
theorem own_no {W : World} {base n : Nat} {e : TypeId} {size : Nat} {v : Value} {xs : List Value} (h : W.ownsRow base e size v n xs) {b : Nat} {cs : Array Value} {t : TypeId} (hb : W.heap[b]? = some (.cells cs t (0, 0))) (hne : t ≠ e) : v.ownBlock ≠ some b := by
  intro hk
  obtain ⟨cells, hc⟩ := own_typed h b hk
  rw [hc] at hb
  cases hb
  exact hne rfl
theorem no_names_own {W : World} {base n : Nat} {e : TypeId} {size : Nat} {v : Value} {xs : List Value} (h : W.ownsRow base e size v n xs) (hne : (216 : Nat) ≠ e) : NoNames W (fun k => v.ownBlock = some k) := fun b cs hb hk => own_no h hb hne hk
theorem no_names_blk {W : World} {M : Nat} {cs : Array Value} {t : TypeId} (h : W.heap[M]? = some (.cells cs t (0, 0))) (hne : (216 : Nat) ≠ t) : NoNames W (fun k => k = M) := fun b cs' hb hk => by
  subst hk; rw [h] at hb; cases hb; exact hne rfl
theorem NoNames.or {W : World} {S S' : Nat → Prop} (h : NoNames W S) (h' : NoNames W S') : NoNames W (fun k => S k ∨ S' k) := fun b cs hb hk => hk.elim (h b cs hb) (h' b cs hb)
/-- The frames' own rows are neither the machine's block nor the stack's. -/
theorem FrsIs.rows_no {w0 W : World} {frs : List Fr} {cs vs : List Value} (hf : FrsIs w0 W frs cs vs) {M : Nat} {mc : Array Value} (hb : W.heap[M]? = some (.cells mc 155 (0, 0)))
    {base n size : Nat} {sv : Value} {xs : List Value} (ho : W.ownsRow base 213 size sv n xs) : ∀ v ∈ vs, ∀ k, v.ownBlock = some k → ¬ (k = M ∨ sv.ownBlock = some k) := by
  intro v hv k hk hS
  obtain ⟨n', xs', h⟩ := hf.own v hv
  rcases hS with rfl | hS
  · exact own_no h hb (by decide) hk
  · obtain ⟨cells, hc⟩ := own_typed ho k hS
    exact own_no h hc (by decide) hk
theorem below_of_grown {B : Nat} {w0 W W' : World} {row : Option Nat} (h : Below B w0 W) (hg : W.grownBy W' row) (hB : B ≤ W.heap.size) (hr : ∀ k, row = some k → B ≤ k) : Below B w0 W' := h.grown hg hB hr
end Go.Proofs.YtijgifinhbbmaaaGreatDoor
set_option linter.unusedVariables false
set_option linter.unusedSimpArgs false
namespace Go.Proofs.YtijgifinhbbmaaaGreatDoor
open Go.RowKit Go.Proofs.YtijgifinhbbmaaaGreatDoorW.PrintWords Go.Proofs.YtijgifinhbbmaaaGreatDoor.Q
def beginS (st : St) (x : Ex) (sees : List Nm) : St :=
  if st.turns = 1000 then { st with fault := 52 } else { st with turns := st.turns + 1, frs := ⟨x, [], sees⟩ :: st.frs }
theorem infoFrame : (Tryz.prog.info? 213).map (fun i => (i.zero, i.size, i.bytes)) = some (some (.agg #[.int .i64 0, .string ⟨#[]⟩, .slice none 0 0, .slice none 0 0, .pointer none]), 5, 80) := by kernel_rfl
/-- The stack's block. -/
def stackOf (W : World) (M : Nat) : Option Nat := match W.cell? ⟨M, 0, none⟩ with | some v => v.ownBlock | none => none
theorem stackOf_eq {W : World} {M : Nat} {v : Value} (h : W.cell? ⟨M, 0, none⟩ = some v) : stackOf W M = v.ownBlock := by unfold stackOf; rw [h]
theorem begin_end {w0 W W1 w1 : World} {M : Nat} {st : St} {x : Ex} {A : Option Addr} {c : Nat} {p : Option Addr} {sees : List Nm} {sv : Value} {cs vs : List Value} {gg cap : Nat} {o : Obj}
    (hb : W.heap[M]? = some (.cells #[sv, .int .i64 st.turns, .int .i64 st.fault] 155 (0, 0))) (hm : w0.heap.size ≤ M) (ho : W.ownsRow w0.heap.size 213 5 sv st.frs.length cs) (hf : FrsIs w0 W st.frs cs vs) (ha : Apart vs)
    (hx : kEx.C w0 A x.f2.length x.f2) (hc : x.f2.length ≤ c) (hp : Chain W p sees) (h1 : st.turns < 1000)
    (k1 : Kept W W1 (fun k => k = M)) (B1 : Below w0.heap.size w0 W1) (hgrow : ((W1.alloc o).drew).grownBy w1 sv.ownBlock)
    (b2 : w1.heap[M]? = some (.cells #[sv, .int .i64 (st.turns + 1), .int .i64 st.fault] 155 (0, 0)))
    (hown1 : w1.ownsRow w0.heap.size 213 5 (.slice (some ⟨gg, 0, none⟩) (st.frs.length + 1) cap) (st.frs.length + 1) (cs ++ [.int .i64 x.f0, .string x.f1, .slice A x.f2.length c, .slice none 0 0, .pointer p])) :
    IsM w0 (w1.setCell ⟨M, 0, none⟩ (.slice (some ⟨gg, 0, none⟩) (st.frs.length + 1) cap)) M (beginS st x sees) ∧ Kept W (w1.setCell ⟨M, 0, none⟩ (.slice (some ⟨gg, 0, none⟩) (st.frs.length + 1) cap)) (fun k => k = M ∨ stackOf W M = some k) := by
  have hst := stackOf_eq (show W.cell? ⟨M, 0, none⟩ = some sv from blk_cell hb 0)
  have K := (Kept.of_grown hgrow (((k1.mono (S' := fun k => k = M ∨ sv.ownBlock = some k) (fun k h => .inl h)).alloc o).drew) (fun k hk => .inl (.inr hk))).setCell (p := ⟨M, 0, none⟩) (.inl (.inl rfl)) (.slice (some ⟨gg, 0, none⟩) (st.frs.length + 1) cap)
  have nn : NoNames W (fun k => k = M ∨ sv.ownBlock = some k) := (no_names_blk hb (by decide)).or (no_names_own ho (by decide))
  have he : beginS st x sees = { st with turns := st.turns + 1, frs := ⟨x, [], sees⟩ :: st.frs } := by unfold beginS; rw [if_neg (by omega)]
  rw [he, hst]
  refine ⟨⟨_, _, .slice none 0 0 :: vs, blk_set b2 0 _, hm, own_setCell hown1 (fun e => own_no hown1 b2 (by decide) e.symm) _, ⟨cs, _, _, vs, rfl, rfl, hf.kept K nn (hf.rows_no hb ho), ⟨A, c, p, rfl, hc, hx, own_nil _ _ _ _, hp.kept K nn⟩⟩, ?_, ?_⟩, K⟩
  · exact List.pairwise_cons.2 ⟨fun _ _ => .inl rfl, ha⟩
  · exact (below_of_grown ((B1.alloc B1.size o).drew) hgrow (by simpa using Nat.le_succ_of_le B1.size) (fun k hk => own_base ho k hk)).setCell (p := ⟨M, 0, none⟩) hm _
set_option maxHeartbeats 1000000 in
set_option maxRecDepth 100000 in
theorem begin_go (w0 W : World) (M : Nat) (st : St) (x : Ex) (A : Option Addr) (c : Nat) (p : Option Addr) (sees : List Nm) (hM : IsM w0 W M st)
    (hx : kEx.C w0 A x.f2.length x.f2) (hc : x.f2.length ≤ c) (hp : Chain W p sees) (h0 : 0 ≤ st.turns) (h1 : st.turns < 1000) (hlen : st.frs.length ≤ 4000) :
    Calls Tryz.prog 81 #[.pointer (some ⟨M, 0, none⟩), .agg #[.int .i64 x.f0, .string x.f1, .slice A x.f2.length c], .pointer p] W fun e W' => e = .returned (.tuple #[]) ∧ IsM w0 W' M (beginS st x sees) ∧ Kept W W' (fun k => k = M ∨ stackOf W M = some k) := by
  obtain ⟨sv, cs, vs, hb, hm, ho, hf, ha, hB⟩ := hM
  have c0 := blk_cell hb 0
  have c1 := blk_cell hb 1
  have c2 := blk_cell hb 2
  have f0 := free_blk (i := 0) hb
  have f1 := free_blk (i := 1) hb
  have f2 := free_blk (i := 2) hb
  simp only [List.getElem?_toArray, List.getElem?_cons_zero, List.getElem?_cons_succ] at c0 c1 c2
  have hlt := blk_lt hb
  have hsvM := own_no ho hb (by decide)
  obtain ⟨i0, hi, hz0, hz1, hz2⟩ := info_parts infoFrame
  have hb1 : (st.turns == 1000) = false := by simp; omega
  -- the world behind the turn's count and the box
  have k1 : Kept W ((W.setCell ⟨M, 1, none⟩ (.int .i64 (st.turns + 1))).alloc (.cells #[.int .i64 x.f0, .string x.f1, .slice A x.f2.length c] 84)) (fun k => k = M) :=
    ((Kept.refl W (fun k => k = M)).setCell (p := ⟨M, 1, none⟩) (.inl rfl) _).alloc _
  have b1 := Below.heap_alloc (W.setCell ⟨M, 1, none⟩ (.int .i64 (st.turns + 1))) (.cells #[.int .i64 x.f0, .string x.f1, .slice A x.f2.length c] 84) M (by simpa using hlt)
  rw [blk_set hb 1 _] at b1
  have x1 := heap_alloc_new (W.setCell ⟨M, 1, none⟩ (.int .i64 (st.turns + 1))) (.cells #[.int .i64 x.f0, .string x.f1, .slice A x.f2.length c] 84)
  have o1 := (own_setCell ho (p := ⟨M, 1, none⟩) (fun e => hsvM e.symm) (.int .i64 (st.turns + 1))).alloc (.cells #[.int .i64 x.f0, .string x.f1, .slice A x.f2.length c] 84)
  have B1 := (hB.setCell (p := ⟨M, 1, none⟩) hm (.int .i64 (st.turns + 1))).alloc (by simpa using hB.size) (.cells #[.int .i64 x.f0, .string x.f1, .slice A x.f2.length c] 84)
  simp only [World.size_setCell] at x1
  go_enter Tryz.func81, Tryz.ntmps81
  go_wp2
  generalize (W.setCell ⟨M, 1, none⟩ (.int .i64 (st.turns + 1))).alloc (.cells #[.int .i64 x.f0, .string x.f1, .slice A x.f2.length c] 84) = W1 at k1 b1 x1 o1 B1 ⊢
  have d0 := blk_cell b1 0
  have g0 := free_blk (i := 0) b1
  have e0 := blk_cell x1 0
  have e1 := blk_cell x1 1
  have e2 := blk_cell x1 2
  simp only [List.setIfInBounds_toArray, List.set_cons_succ, List.set_cons_zero, List.getElem?_toArray, List.getElem?_cons_zero, List.getElem?_cons_succ] at d0 e0 e1 e2
  have hM1 := blk_lt b1
  have bA : ((W1.alloc (.cells #[.int .i64 x.f0, .string x.f1, .slice A x.f2.length c, .slice none 0 0, .pointer p] 213)).drew).heap[M]? = some (.cells #[sv, .int .i64 (st.turns + 1), .int .i64 st.fault] 155 (0, 0)) := (Below.heap_alloc _ _ M hM1).trans b1
  have hX1 := blk_lt x1
  have hsvX := own_no o1 x1 (by decide)
  clear c0 c1 c2 f0 f1 f2
  go_region_law
    ((refine step_append_lies _ rfl (.tmp 25) (.tmp 29) 153 rfl w0.heap.size 213 i0 _ 5 80 Tryz.underlying153 hi hz0 hz1 hz2 rfl (by omega) sv st.frs.length cs (by rfl) ((o1.alloc _).drew)
        ⟨W1.heap.size, 0, none⟩ 1 1 [.int .i64 x.f0, .string x.f1, .slice A x.f2.length c, .slice none 0 0, .pointer p] (by rfl) (by rfl) (World.news_of_block (cs := #[.int .i64 x.f0, .string x.f1, .slice A x.f2.length c, .slice none 0 0, .pointer p]) (t := 213) (fr := (0, 0)) (heap_alloc_new W1 _)) (by simp [Value.oneCell'])
        (by omega) (by simp only [maxLen]; omega) (by omega) (by have := B1.size; simp; omega) (W1.heap.size + 1) (by simp) ?_; intro gg cap w1 hown1 hgrow hat hgl; have b2 := blk_grown bA hgrow (Ne.symm hsvM); have cM : w1.cell? ⟨M, 0, none⟩ = some sv := blk_cell b2 0; have hfz := free_blk (i := 0) b2))
  all_goals go_wp2
  all_goals go_end0
  all_goals refine ⟨rfl, ?_⟩
  all_goals exact begin_end hb hm ho hf ha hx hc hp h1 k1 B1 hgrow b2 hown1
end Go.Proofs.YtijgifinhbbmaaaGreatDoor
set_option linter.unusedVariables false
set_option linter.unusedSimpArgs false
namespace Go.Proofs.YtijgifinhbbmaaaGreatDoor
open Go.RowKit Go.Proofs.YtijgifinhbbmaaaGreatDoorW.PrintWords Go.Proofs.YtijgifinhbbmaaaGreatDoor.Q
set_option maxHeartbeats 1000000 in
theorem begin_stop (w0 W : World) (M : Nat) (st : St) (x : Ex) (A : Option Addr) (c : Nat) (p : Option Addr) (sees : List Nm) (hM : IsM w0 W M st) (h1 : st.turns = 1000) :
    Calls Tryz.prog 81 #[.pointer (some ⟨M, 0, none⟩), .agg #[.int .i64 x.f0, .string x.f1, .slice A x.f2.length c], .pointer p] W fun e W' => e = .returned (.tuple #[]) ∧ IsM w0 W' M (beginS st x sees) ∧ Kept W W' (fun k => k = M ∨ stackOf W M = some k) := by
  obtain ⟨sv, cs, vs, hb, hm, ho, hf, ha, hB⟩ := hM
  have c1 : W.cell? ⟨M, 1, none⟩ = some (.int .i64 st.turns) := blk_cell hb 1
  have c2 : W.cell? ⟨M, 2, none⟩ = some (.int .i64 st.fault) := blk_cell hb 2
  have f2 := free_blk (i := 2) hb
  have hlt := blk_lt hb
  have hsvM := own_no ho hb (by decide)
  have hb1 : (st.turns == 1000) = true := by simp; omega
  have K := ((Kept.refl W (fun k => k = M ∨ sv.ownBlock = some k)).setCell (p := ⟨M, 2, none⟩) (.inl (.inl rfl)) (.int .i64 52)).alloc (.cells #[.int .i64 x.f0, .string x.f1, .slice A x.f2.length c] 84)
  have nn : NoNames W (fun k => k = M ∨ sv.ownBlock = some k) := (no_names_blk hb (by decide)).or (no_names_own ho (by decide))
  have hst := stackOf_eq (show W.cell? ⟨M, 0, none⟩ = some sv from blk_cell hb 0)
  have HS := Aside0.mk hst
  clear hst
  have HH := Lib.hid h1
  clear h1
  go_enter Tryz.func81, Tryz.ntmps81
  go_wp2
  refine bodyPost_ret (results_none rfl _ _ _) rfl ?_
  refine ⟨rfl, ?_⟩
  rw [show beginS st x sees = { st with fault := 52 } from by unfold beginS; rw [if_pos HH.out]]
  rw [HS.out]
  refine ⟨⟨sv, cs, vs, ?_, hm, (own_setCell ho (p := ⟨M, 2, none⟩) (fun e => hsvM e.symm) _).alloc _, hf.kept K nn (hf.rows_no hb ho), ha, (hB.setCell (p := ⟨M, 2, none⟩) hm _).alloc (by simpa using hB.size) _⟩, K⟩
  exact (Below.heap_alloc _ _ M (by simpa using hlt)).trans (blk_set hb 2 _)
theorem begin_calls (w0 W : World) (M : Nat) (st : St) (x : Ex) (A : Option Addr) (c : Nat) (p : Option Addr) (sees : List Nm) (hM : IsM w0 W M st)
    (hx : kEx.C w0 A x.f2.length x.f2) (hc : x.f2.length ≤ c) (hp : Chain W p sees) (h0 : 0 ≤ st.turns) (h1 : st.turns ≤ 1000) (hlen : st.frs.length ≤ 4000) :
    Calls Tryz.prog 81 #[.pointer (some ⟨M, 0, none⟩), .agg #[.int .i64 x.f0, .string x.f1, .slice A x.f2.length c], .pointer p] W fun e W' => e = .returned (.tuple #[]) ∧ IsM w0 W' M (beginS st x sees) ∧ Kept W W' (fun k => k = M ∨ stackOf W M = some k) := by
  by_cases h : st.turns = 1000
  · exact begin_stop w0 W M st x A c p sees hM h
  · exact begin_go w0 W M st x A c p sees hM hx hc hp h0 (by omega) hlen
/-- What a name stands for. -/
def look : List Nm → ByteArray → ByteArray × Bool
  | [], _ => (⟨#[]⟩, false)
  | x :: r, n => if x.1.toList = n.toList then (x.2, true) else look r n
set_option maxHeartbeats 1000000 in
theorem find_calls (w : World) (p : Option Addr) (sees : List Nm) (n : ByteArray) (hp : Chain w p sees) :
    Calls Tryz.prog 133 #[.pointer p, .string n] w fun e w' => e = .returned (.tuple #[.string (look sees n).1, .bool (look sees n).2]) ∧ w' = w := by
  go_enter Tryz.func133, Tryz.ntmps133
  go_wp2
  go_loopg [0] sees.length (fun kq v0 w' => ∃ (q : Option Addr) (rest : List Nm), v0 = .pointer q ∧ Aside0 (Chain w q rest) ∧ Aside0 (kq = rest.length) ∧ Aside0 (look sees n = look rest n) ∧ w = w')
  case atStart => exact ⟨p, sees, rfl, ⟨hp⟩, ⟨rfl⟩, ⟨rfl⟩, rfl⟩
  case round =>
    obtain ⟨q, rest, rfl, HC, HL, HE, rfl⟩ := hrel
    cases rest with
    | nil =>
      obtain rfl : q = none := HC.out
      have e1 : look sees n = (⟨#[]⟩, false) := HE.out
      have E1 := Aside0.mk e1
      clear e1 HE HC HL
      go_wp2
      go_ret2
      rw [E1.out]
      exact ⟨rfl, rfl⟩
    | cons x rest =>
      obtain ⟨b, q', rfl, hb, hr⟩ := HC.out
      have hr' := Aside0.mk hr
      have hl := Aside0.mk HL.out
      clear hr HC HL
      have d0 : w.cell? ⟨b, 0, none⟩ = some (.string x.1) := blk_cell hb 0
      have d1 : w.cell? ⟨b, 1, none⟩ = some (.string x.2) := blk_cell hb 1
      have d2 : w.cell? ⟨b, 2, none⟩ = some (.pointer q') := blk_cell hb 2
      clear hb
      by_cases hn : x.1.toList = n.toList
      · have e1 : look sees n = (x.2, true) := by rw [HE.out]; unfold look; rw [if_pos hn]
        have E1 := Aside0.mk e1
        clear e1 HE
        have hn2 : (x.1.toList == n.toList) = true := by simpa using hn
        clear hn
        go_wp2
        go_ret2
        rw [E1.out]
        exact ⟨rfl, rfl⟩
      · have e1 : look sees n = look rest n := by rw [HE.out]; conv => lhs; unfold look; rw [if_neg hn]
        have E1 := Aside0.mk e1
        clear e1 HE
        have hn2 : (x.1.toList == n.toList) = false := by simpa using hn
        clear hn
        go_wp2
        go_ways
        go_roundg rest.length
        case measure => have := hl.out; simp at this; omega
        case rel => exact ⟨q', rest, rfl, hr', ⟨rfl⟩, E1, rfl⟩
end Go.Proofs.YtijgifinhbbmaaaGreatDoor
set_option linter.unusedVariables false
set_option linter.unusedSimpArgs false
namespace Go.Proofs.YtijgifinhbbmaaaGreatDoor
open Go.RowKit Go.Proofs.YtijgifinhbbmaaaGreatDoorW.PrintWords Go.Proofs.YtijgifinhbbmaaaGreatDoor.Q
def doneS (st : St) (s : ByteArray) : St × ByteArray × Bool :=
  if 256 < s.size then ({ st with fault := 43 }, ⟨#[]⟩, false) else
  match st.frs with
  | _ :: fr :: r => ({ st with frs := { fr with vals := fr.vals ++ [s] } :: r }, ⟨#[]⟩, false)
  | _ => ({ st with frs := [] }, s, true)
set_option maxRecDepth 100000 in
set_option maxHeartbeats 1000000 in
theorem done_long (w0 W : World) (M : Nat) (st : St) (s : ByteArray) (hM : IsM w0 W M st) (h1 : 256 < s.size) (hs : s.size ≤ 140737488355328) :
    Calls Tryz.prog 132 #[.pointer (some ⟨M, 0, none⟩), .string s] W fun e W' => e = .returned (.tuple #[.string (doneS st s).2.1, .bool (doneS st s).2.2]) ∧ IsM w0 W' M (doneS st s).1 := by
  obtain ⟨sv, cs, vs, hb, hm, ho, hf, ha, hB⟩ := hM
  have c2 : W.cell? ⟨M, 2, none⟩ = some (.int .i64 st.fault) := blk_cell hb 2
  have f2 := free_blk (i := 2) hb
  have hsvM := own_no ho hb (by decide)
  have K := ((Kept.refl W (fun k => k = M ∨ sv.ownBlock = some k)).setCell (p := ⟨M, 2, none⟩) (.inl (.inl rfl)) (.int .i64 43))
  have nn : NoNames W (fun k => k = M ∨ sv.ownBlock = some k) := (no_names_blk hb (by decide)).or (no_names_own ho (by decide))
  have h2 : (256 : Int) < (s.size : Int) := by omega
  have e1 : doneS st s = ({ st with fault := 43 }, ⟨#[]⟩, false) := by unfold doneS; rw [if_pos h1]
  have E1 := Aside0.mk e1
  clear e1
  go_enter Tryz.func132, Tryz.ntmps132
  go_wp2
  go_ret2
  rw [E1.out]
  exact ⟨rfl, sv, cs, vs, blk_set hb 2 _, hm, own_setCell ho (p := ⟨M, 2, none⟩) (fun e => hsvM e.symm) _, hf.kept K nn (hf.rows_no hb ho), ha, hB.setCell (p := ⟨M, 2, none⟩) hm _⟩
theorem own_cell {W : World} {base n : Nat} {e : TypeId} {size g cap : Nat} {xs : List Value} (h : W.ownsRow base e size (.slice (some ⟨g, 0, none⟩) n cap) n xs) (j : Nat) (u : Value) (hu : xs[j]? = some u) : W.cell? ⟨g, j, none⟩ = some u := by
  have := h.cells (g := g) rfl j u hu
  rwa [add_plain] at this
theorem own_free {W : World} {base n : Nat} {e : TypeId} {size g cap : Nat} {xs : List Value} (h : W.ownsRow base e size (.slice (some ⟨g, 0, none⟩) n cap) n xs) (j : Nat) : W.frozen? ⟨g, j, none⟩ = false := by
  obtain ⟨cells, hc⟩ := own_typed h g rfl
  exact free_blk hc
theorem own_set {W : World} {base n : Nat} {e : TypeId} {size g cap : Nat} {xs : List Value} (h : W.ownsRow base e size (.slice (some ⟨g, 0, none⟩) n cap) n xs) (j : Nat) (u : Value) (hj : j < xs.length) :
    (W.setCell ⟨g, j, none⟩ u).ownsRow base e size (.slice (some ⟨g, 0, none⟩) n cap) n (xs.set j u) := by
  obtain ⟨h0, h2⟩ := h
  rcases h2 with ⟨hn, _⟩ | ⟨g', cap', cur, hv, hg, hh, hn, hcap, hsz, htake⟩
  · cases hn
  · cases hv
    refine ⟨by rw [List.length_set]; exact h0, .inr ⟨g, cap, cur.setIfInBounds j u, rfl, hg, blk_set hh j u, hn, hcap, by simpa using hsz, ?_⟩⟩
    rw [← htake, Array.toList_setIfInBounds, List.take_set]
theorem infoString : (Tryz.prog.info? 9).map (fun i => (i.zero, i.size, i.bytes)) = some (some (.string ⟨#[]⟩), 1, 16) := by kernel_rfl
theorem own_some {W : World} {base n : Nat} {e : TypeId} {size : Nat} {v : Value} {xs : List Value} (h : W.ownsRow base e size v (n + 1) xs) :
    ∃ g cap, v = .slice (some ⟨g, 0, none⟩) (n + 1) cap ∧ n + 1 ≤ cap ∧ cap ≤ 9223372036854775807 ∧ ∀ j u, xs[j]? = some u → W.cell? ⟨g, j, none⟩ = some u ∧ W.frozen? ⟨g, j, none⟩ = false := by
  rcases h.2 with ⟨_, h0⟩ | ⟨g, cap, cur, rfl, _, hh, h1, h2, _⟩
  · omega
  · refine ⟨g, cap, rfl, h1, by simpa [maxLen] using h2, fun j u hu => ⟨?_, free_blk hh⟩⟩
    have := h.cells (g := g) rfl j u hu
    rwa [add_plain] at this
set_option maxRecDepth 100000 in
set_option maxHeartbeats 1000000 in
theorem done_more (w0 W : World) (M : Nat) (st : St) (f0 fr : Fr) (r : List Fr) (s : ByteArray) (hM : IsM w0 W M st) (hfr : st.frs = f0 :: fr :: r) (h1 : s.size ≤ 256) (hl : r.length ≤ 4000) (hv : fr.vals.length ≤ 4000000000) :
    Calls Tryz.prog 132 #[.pointer (some ⟨M, 0, none⟩), .string s] W fun e W' => e = .returned (.tuple #[.string ⟨#[]⟩, .bool false]) ∧ IsM w0 W' M { st with frs := { fr with vals := fr.vals ++ [s] } :: r } := by
  obtain ⟨sv, cs, vs, hb, hm, ho, hf, ha, hB⟩ := hM
  rw [hfr] at ho hf
  clear hfr
  obtain ⟨c1, c2, u0, vs0, rfl, rfl, hf1, hf0⟩ := hf
  obtain ⟨d1, d2, u1, vs1, rfl, rfl, hf2, hf3⟩ := hf1
  obtain ⟨A, c, p, rfl, hA, hKids, hrow, hch⟩ := hf3
  have l0 := hf0.len
  have l1 := hf2.len.1
  obtain ⟨g, cap, rfl, hcap, hcap2, hcells⟩ := own_some ho
  have ho2 := ownsRow_pop (by simp [l1]; omega) ho
  have m0 : W.cell? ⟨M, 0, none⟩ = some _ := blk_cell hb 0
  have mf := free_blk (i := 0) hb
  have h2 : ¬ (256 : Int) < (s.size : Int) := by omega
  have h3 : (0 : Int) ≤ (r.length : Int) + 1 := by omega
  have h4 : ((r.length : Int) + 1) ≤ (cap : Int) := by simp at hcap; omega
  simp only [List.length_cons] at *
  obtain ⟨i0, hi, hz0, hz1, hz2⟩ := info_parts infoString
  have hMg : g ≠ M := fun e => own_no ho hb (by decide) (by simp [Value.ownBlock, e])
  have b2 := blk_set hb 0 (.slice (some ⟨g, 0, none⟩) (r.length + 1) cap)
  have o2 := own_setCell ho2 (p := ⟨M, 0, none⟩) (fun e => hMg (by simpa [Value.ownBlock] using e.symm)) (.slice (some ⟨g, 0, none⟩) (r.length + 1) cap)
  have r2 := own_setCell hrow (p := ⟨M, 0, none⟩) (fun e => own_no hrow hb (by decide) e.symm) (.slice (some ⟨g, 0, none⟩) (r.length + 1) cap)
  have K2 := (Kept.refl W (fun k => k = M ∨ k = g ∨ u1.ownBlock = some k)).setCell (p := ⟨M, 0, none⟩) (.inl (.inl rfl)) (.slice (some ⟨g, 0, none⟩) (r.length + 1) cap)
  have B2 := hB.setCell (p := ⟨M, 0, none⟩) hm (.slice (some ⟨g, 0, none⟩) (r.length + 1) cap)
  go_enter Tryz.func132, Tryz.ntmps132
  go_wp2
  go_region
  go_wp2
  change _ at b2
  generalize hW2 : (W.setCell ⟨M, 0, none⟩ (.slice (some ⟨g, 0, none⟩) (r.length + 1) cap)) = W2 at b2 o2 r2 K2 B2 ⊢
  clear hW2 hcells m0 mf
  obtain ⟨_, _, he, _, _, hc2⟩ := own_some o2
  simp only [Value.slice.injEq, Option.some.injEq, Addr.mk.injEq, true_and, and_true] at he
  obtain ⟨rfl, rfl⟩ := he
  have m0 : W2.cell? ⟨M, 0, none⟩ = some (.slice (some ⟨g, 0, none⟩) (r.length + 1) cap) := blk_cell b2 0
  have h5 : (0 : Int) ≤ (r.length : Int) := by omega
  have h6 : (r.length : Int) < (r.length : Int) + 1 := by omega
  have hcs : (d1 ++ [.int .i64 fr.x.f0, .string fr.x.f1, .slice A fr.x.f2.length c, u1, .pointer p])[r.length * 5 + 3]? = some u1 := by rw [List.getElem?_append_right (by omega), l1]; simp
  have v3 := hc2 (r.length * 5 + 3) u1 hcs
  have hgu : u1.ownBlock ≠ some g := by
    obtain ⟨cells, hc⟩ := own_typed o2 g rfl
    exact own_no r2 hc (by decide)
  have Hcs := Aside0.mk hcs
  clear hcs
  clear hc2
  go_quiet (fail)
  go_wp2_with (at_builtin; refine wpList_append_lies _ rfl (.tmp 49) (.tmp 51) 180 rfl w0.heap.size 9 i0 _ 1 16 Tryz.underlying180 hi hz0 hz1 hz2 rfl (by decide) u1 fr.vals.length (pw_strs fr.vals) rfl (World.ownsRow.alloc (w := W2.drewN (1 + nq)) r2 _) ⟨W2.heap.size, 0, none⟩ 1 1 [.string s] rfl rfl (World.news_of_block (cs := #[.string s]) (t := 9) (fr := (0, 0)) (heap_alloc_new (W2.drewN (1 + nq)) _)) (by simp [Value.oneCell']) (by omega) (by simp only [maxLen]; omega) (by omega) (by have := B2.size; simp; omega) (W2.heap.size + 1) (by simp) ?_; intro g1 cap1 w1 hown1 hgrow hat hgl; have o3 := own_other (World.ownsRow.alloc (w := W2.drewN (1 + nq)) o2 (.cells #[.string s] 9)) hgrow (.inr (fun e => hgu e.symm)); have v4 := own_cell o3 (r.length * 5 + 3) u1 Hcs.out; have vf := own_free o3 (r.length * 5 + 3))
  go_ret2
  refine ⟨rfl, ?_⟩
  have hM1 : w1.heap[M]? = some (.cells #[.slice (some ⟨g, 0, none⟩) (r.length + 1) cap, .int .i64 st.turns, .int .i64 st.fault] 155 (0, 0)) :=
    blk_grown (w := (W2.drewN (1 + nq)).alloc (.cells #[.string s] 9)) ((Below.heap_alloc (W2.drewN (1 + nq)) _ M (blk_lt b2)).trans b2) hgrow (fun e => own_no r2 b2 (by decide) e.symm)
  have KK := (Kept.of_grown hgrow ((K2.drewN (1 + nq)).alloc (.cells #[.string s] 9)) (fun k hk => .inl (.inr (.inr hk)))).setCell (p := ⟨g, r.length * 5 + 3, none⟩) (.inl (.inr (.inl rfl))) (.slice (some ⟨g1, 0, none⟩) (fr.vals.length + 1) cap1)
  have nn : NoNames W (fun k => k = M ∨ k = g ∨ u1.ownBlock = some k) := by
    refine (no_names_blk hb (by decide)).or (NoNames.or ?_ (no_names_own hrow (by decide)))
    obtain ⟨cells, hc⟩ := own_typed ho g rfl
    exact no_names_blk hc (by decide)
  have ha1 := (List.pairwise_cons.1 (List.pairwise_cons.1 ha).2)
  have hno : ∀ v ∈ vs1, ∀ k, v.ownBlock = some k → ¬ (k = M ∨ k = g ∨ u1.ownBlock = some k) := by
    intro v hv k hk hS
    rcases hS with rfl | rfl | hS
    · exact hf2.rows_no hb ho v hv k hk (.inl rfl)
    · exact hf2.rows_no hb ho v hv k hk (.inr rfl)
    · rcases ha1.1 v hv with h | h
      · rw [h] at hS; cases hS
      · exact h (hS.trans hk.symm)
  refine ⟨_, _, .slice (some ⟨g1, 0, none⟩) (fr.vals.length + 1) cap1 :: vs1, (blk_far hM1 (Ne.symm hMg) _), hm, own_set o3 _ _ (by simp [l1]), ⟨d1, [.int .i64 fr.x.f0, .string fr.x.f1, .slice A fr.x.f2.length c, .slice (some ⟨g1, 0, none⟩) (fr.vals.length + 1) cap1, .pointer p], _, vs1, ?_, rfl, hf2.kept KK nn hno, ⟨A, c, p, rfl, hA, hKids, ?_, hch.kept KK nn⟩⟩, ?_, ?_⟩
  · rw [List.set_append, if_neg (by omega), l1]; simp
  · have := own_setCell hown1 (p := ⟨g, r.length * 5 + 3, none⟩) (fun e => by
      obtain ⟨cells, hc⟩ := own_typed o3 g rfl
      exact own_no hown1 hc (by decide) e.symm) (.slice (some ⟨g1, 0, none⟩) (fr.vals.length + 1) cap1)
    simpa [pw_strs] using this
  · refine List.pairwise_cons.2 ⟨fun v hv => .inr (fun e => ?_), ha1.2⟩
    rcases hat with hat | hat
    · rcases ha1.1 v hv with h | h
      · rw [hat] at h; cases h
      · exact h (hat.trans (by simpa [Value.ownBlock] using e))
    · obtain ⟨n', xs', hrow'⟩ := hf2.own v hv
      have := own_lt hrow' g1 (by simpa [Value.ownBlock] using e.symm)
      have := K2.1
      omega
  · exact ((below_of_grown ((B2.trans (below_drewN (Below.refl _ _) (1 + nq))).alloc (by simpa using B2.size) (.cells #[.string s] 9)) hgrow (by have := B2.size; simp; omega) (fun k hk => own_base r2 k hk)).setCell (p := ⟨g, r.length * 5 + 3, none⟩) (own_base o2 g rfl) _)
end Go.Proofs.YtijgifinhbbmaaaGreatDoor
set_option linter.unusedVariables false
set_option linter.unusedSimpArgs false
namespace Go.Proofs.YtijgifinhbbmaaaGreatDoor
open Go.RowKit Go.Proofs.YtijgifinhbbmaaaGreatDoorW.PrintWords Go.Proofs.YtijgifinhbbmaaaGreatDoor.Q
set_option maxRecDepth 100000 in
set_option maxHeartbeats 1000000 in
theorem done_last (w0 W : World) (M : Nat) (st : St) (f0 : Fr) (s : ByteArray) (hM : IsM w0 W M st) (hfr : st.frs = [f0]) (h1 : s.size ≤ 256) :
    Calls Tryz.prog 132 #[.pointer (some ⟨M, 0, none⟩), .string s] W fun e W' => e = .returned (.tuple #[.string s, .bool true]) ∧ IsM w0 W' M { st with frs := [] } := by
  obtain ⟨sv, cs, vs, hb, hm, ho, hf, ha, hB⟩ := hM
  rw [hfr] at ho hf
  clear hfr
  obtain ⟨c1, c2, u0, vs0, rfl, rfl, hf1, hf0⟩ := hf
  obtain ⟨rfl, rfl⟩ := hf1
  have l0 := hf0.len
  obtain ⟨g, cap, rfl, hcap, hcap2, hcells⟩ := own_some ho
  have ho2 := ownsRow_pop (xs := []) rfl ho
  have m0 : W.cell? ⟨M, 0, none⟩ = some _ := blk_cell hb 0
  have mf := free_blk (i := 0) hb
  have h2 : ¬ (256 : Int) < (s.size : Int) := by omega
  have h3 : (0 : Int) ≤ (cap : Int) := by omega
  have hMg : g ≠ M := fun e => own_no ho hb (by decide) (by simp [Value.ownBlock, e])
  have b2 := blk_set hb 0 (.slice (some ⟨g, 0, none⟩) 0 cap)
  have o2 := own_setCell ho2 (p := ⟨M, 0, none⟩) (fun e => hMg (by simpa [Value.ownBlock] using e.symm)) (.slice (some ⟨g, 0, none⟩) 0 cap)
  have B2 := hB.setCell (p := ⟨M, 0, none⟩) hm (.slice (some ⟨g, 0, none⟩) 0 cap)
  simp only [List.length_singleton, List.length_nil, Nat.zero_add] at *
  clear hcells
  go_enter Tryz.func132, Tryz.ntmps132
  go_wp2
  go_region
  go_wp2
  go_ret2
  exact ⟨rfl, _, [], [], b2, hm, o2, ⟨rfl, rfl⟩, List.Pairwise.nil, B2.trans (below_drewN (Below.refl _ _) 1)⟩
/-- 'done', whatever stands on the stack. -/
theorem done_calls (w0 W : World) (M : Nat) (st : St) (s : ByteArray) (hM : IsM w0 W M st) (hne : st.frs ≠ []) (hs : s.size ≤ 140737488355328) (hl : st.frs.length ≤ 4000) (hv : ∀ fr ∈ st.frs, fr.vals.length ≤ 4000000000) :
    Calls Tryz.prog 132 #[.pointer (some ⟨M, 0, none⟩), .string s] W fun e W' => e = .returned (.tuple #[.string (doneS st s).2.1, .bool (doneS st s).2.2]) ∧ IsM w0 W' M (doneS st s).1 := by
  by_cases h1 : 256 < s.size
  · exact done_long w0 W M st s hM h1 hs
  · cases hf : st.frs with
    | nil => exact absurd hf hne
    | cons f0 r0 =>
      cases r0 with
      | nil =>
        have e1 : doneS st s = ({ st with frs := [] }, s, true) := by unfold doneS; rw [if_neg h1, hf]
        rw [e1]
        exact done_last w0 W M st f0 s hM hf (by omega)
      | cons fr r =>
        have e1 : doneS st s = ({ st with frs := { fr with vals := fr.vals ++ [s] } :: r }, ⟨#[]⟩, false) := by unfold doneS; rw [if_neg h1, hf]
        rw [e1]
        exact done_more w0 W M st f0 fr r s hM hf (by omega) (by rw [hf] at hl; simp at hl; omega) (hv fr (by rw [hf]; simp))
end Go.Proofs.YtijgifinhbbmaaaGreatDoor
